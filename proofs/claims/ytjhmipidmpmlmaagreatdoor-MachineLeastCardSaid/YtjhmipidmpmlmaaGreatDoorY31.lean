/- The law MachineLeast: the call returns true, for every tape and machine. Printed by gen_lawl.py from XLawL.src. -/
import Derived.Test.YtjhmipidmpmlmaaGreatDoorY25
import Derived.Test.YtjhmipidmpmlmaaGreatDoorY28
import Derived.Test.YtjhmipidmpmlmaaGreatDoorY26
import Derived.Test.YtjhmipidmpmlmaaGreatDoorY30
import Derived.Test.YtjhmipidmpmlmaaGreatDoorY19
namespace Go.Proofs.YtjhmipidmpmlmaaGreatDoor
set_option linter.unusedVariables false
set_option linter.unusedSimpArgs false
set_option maxRecDepth 100000
open Go.RowKit
theorem tapeArg_later {A : Option Addr} {n : Nat} {w w' : World} (h : TapeArg A n w) (hb : Below w.heap.size w w') : TapeArg A n w' :=
 ⟨h.1, fun j hj => by
  obtain ⟨ad, x, h1, h2, h3⟩ := h.2 j hj;exact ⟨ad, x, h1, Nat.lt_of_lt_of_le h2 hb.size, (hb.cell (p := ad.add j) (by rw [Reads_block]; exact h2)).trans h3⟩⟩
theorem keepF_fr {b : Nat} {w w' : World} (hf : Fr b w w') : KeepF [b] [] w w' := ⟨hf.os, hf.tape, hf.output, hf.size, fun k hk hn => hf.block k hk (fun e => hn (by injection e with e; simp [e])), fun k hk => by cases hk⟩
def factL2 (s : Nat) (Ae1 Aa1 : Option Addr) (e1 ce1 a1 ca1 : Nat) (W : World) : Nat → Nat → Value → World → Prop
 | c, 0, x, w => x = .agg #[.slice Ae1 e1 ce1, .slice Aa1 a1 ca1]
 | c, 1, x, w => x = .pointer (some ⟨s + 1, 0, none⟩)
 | c, 2, x, w => 1 ≤ c → ∃ m Ae ce Aa ca, x = .agg #[.slice Ae m.ed.length ce, .slice Aa m.ac.length ca] ∧ McUp W.heap.size w x m ∧ Vld m ∧ McSm m ∧ (1 ≤ m.ed.length ∧ m.ed.length ≤ 5)
 | c, 3, x, w => x = .pointer (some ⟨s + 1, 0, none⟩)
 | c, 4, x, w => 2 ≤ c → ∃ m Ae ce Aa ca, x = .agg #[.slice Ae m.ed.length ce, .slice Aa m.ac.length ca] ∧ McUp W.heap.size w x m ∧ Vld m ∧ McSm m ∧ (1 ≤ m.ed.length ∧ m.ed.length ≤ 5)
 | _, _, _, _ => True
set_option maxHeartbeats 16000000 in
theorem least_law (A : Option Addr) (n c : Nat) (v1 : Value) (m1 : Mz) (w : World) (ht : TapeArg A n w) (hm1 : McInZ w v1 m1) (hr1 : ∀ r ∈ m1.ed, r.length ≤ 140737488351232) (hv : VrOK w) :
  Calls Tryz.prog 5 #[.slice A n c, v1] w fun e w' => e = .returned (.bool true) ∧ Below w.heap.size w w' := by
 obtain ⟨Ae1, ce1, Aa1, ca1, rfl, -, -⟩ := mcz_form hm1;obtain ⟨e1, he1⟩ : ∃ k, m1.ed.length = k := ⟨_, rfl⟩;obtain ⟨a1, ha1⟩ : ∃ k, m1.ac.length = k := ⟨_, rfl⟩;rw [he1, ha1] at hm1 ⊢;have hb0 := (Below.refl w.heap.size w).alloc (Nat.le_refl _) (.cells #[.slice Ae1 e1 ce1, .slice Aa1 a1 ca1] 34);have hz0 : (w.alloc (.cells #[.slice Ae1 e1 ce1, .slice Aa1 a1 ca1] 34)).heap.size = w.heap.size + 1 := by simp
 have h0 := tape_new (c := c) (tapeArg_later ht hb0);rw [hz0] at h0;have H0 := Lib.hid (And.intro hm1 (And.intro hr1 hv));have HT0 := Lib.hid h0;clear hm1 hr1 hv ht h0 hb0 hz0 he1 ha1
 go_enter Tryz.func5, Tryz.ntmps5
 go_wp2_with fail;refine wp_named fun W hW => ?_;have hT : TapeOK (w.heap.size + 1) W := by rw [hW]; exact HT0.out
 have hB : Below w.heap.size w W := by rw [hW]; exact ((Below.refl _ _).alloc (Nat.le_refl _) _).alloc (by simp) _
 have hR : W.heap[w.heap.size]? = some (.cells #[.slice Ae1 e1 ce1, .slice Aa1 a1 ca1] 34 (0, 0)) := by rw [hW, old_alloc _ _ _ (by simp)]; exact heap_alloc_new w _
 have hz : w.heap.size + 1 < W.heap.size := hT.lt;have HW := Lib.hid (And.intro hT (And.intro hB (And.intro hR hz)));have hS0 : Fr (w.heap.size + 1) W W.drew ∧ TapeOK (w.heap.size + 1) W.drew := ⟨Fr.of_below (Below.refl _ _).drew, hT.below (Below.refl _ _).drew⟩;clear hW hT hB hR hz HT0;refine wp_region_chain 5 [2, 4] (factL2 w.heap.size Ae1 Aa1 e1 ce1 a1 ca1 W) (fun c w' => Fr (w.heap.size + 1) W w' ∧ TapeOK (w.heap.size + 1) w') (by kernel_rfl) (by kernel_rfl) (by kernel_rfl) (by kernel_rfl) (by kernel_rfl) (by kernel_rfl) (by decide) hS0 ?_ ?_
 ·simp only [pq4, pq5];refine HSteps.pure (by decide) ?_ (HSteps.pure (by decide) ?_ (HSteps.eff 0 rfl ?_ (HSteps.pure (by decide) ?_ (HSteps.eff 1 rfl ?_ (HSteps.nil)))))
  all_goals first | (intro v wz c hlo hS hE K hK;simp only [putAll, Act.put, pq1, pq2, pq3, Nat.zero_add, Nat.reduceAdd, pq4, pq5] at hK ⊢) | (intro v wz hS hE K hK;simp only [putAll, Act.put, pq1, pq2, pq3, Nat.zero_add, Nat.reduceAdd, pq4, pq5] at hK ⊢)
  ·have hrw := (hS.1.block w.heap.size (by have := HW.out.2.2.2; omega) (fun e => by injection e with e; omega)).trans HW.out.2.2.1
   obtain ⟨y0, y1⟩ : wz.cell? ⟨w.heap.size, 0, none⟩ = some (.slice Ae1 e1 ce1) ∧ wz.cell? ⟨w.heap.size, 1, none⟩ = some (.slice Aa1 a1 ca1) := by constructor <;> (rw [cell_of_row _ _ _ _ _ _ hrw]; rfl)
   have ly : w.heap.size < wz.heap.size := (Array.getElem?_eq_some_iff.1 hrw).1;clear hrw;have HX := Lib.hid hS;clear hS hE hlo;go_wp2_with fail;exact hK.out _ rfl
  ·have HX := Lib.hid hS;clear hS hE hlo;go_wp2_with fail;exact hK.out _ rfl
  ·have e1 : v 1 = _ := hE.1 rfl;rw [e1] at hK ⊢;have HX := Lib.hid hS;clear hS hE;go_wp2_with fail;refine (own_any (w.heap.size + 1) wz HX.out.2).mono ?_;rintro e wy ⟨rv, m, rfl, hup, hvd, hsm, hml, hty, hfy⟩;obtain ⟨Ae, ce, Aa, ca, e1⟩ := mc_form (hup wy (kf_bel (Below.refl _ _)));have HP := Lib.hid (And.intro (hup.mono HX.out.1.size) (And.intro hvd (And.intro hsm (And.intro hml (And.intro hty (And.intro hfy e1))))));clear hup hvd hsm hml hty hfy;subst e1;go_wp2_with fail;refine hK.out _ _ (fun j z hj h => ?_) ⟨HX.out.1.trans HP.out.2.2.2.2.2.1, HP.out.2.2.2.2.1⟩ (fun _ => ⟨m, Ae, ce, Aa, ca, rfl, HP.out.1, HP.out.2.1, HP.out.2.2.1, HP.out.2.2.2.1⟩)
   match j with
   | 0 | 1 | 3 => exact h
   | 2 => exact absurd rfl hj
   | 4 => exact fun hc => by omega
   | _ + 5 => exact trivial
  ·have HX := Lib.hid hS;clear hS hE hlo;go_wp2_with fail;exact hK.out _ rfl
  ·have e3 : v 3 = _ := hE.1 rfl;rw [e3] at hK ⊢;have HX := Lib.hid hS;clear hS hE;go_wp2_with fail;refine (own_any (w.heap.size + 1) wz HX.out.2).mono ?_;rintro e wy ⟨rv, m, rfl, hup, hvd, hsm, hml, hty, hfy⟩;obtain ⟨Ae, ce, Aa, ca, e1⟩ := mc_form (hup wy (kf_bel (Below.refl _ _)));have HP := Lib.hid (And.intro (hup.mono HX.out.1.size) (And.intro hvd (And.intro hsm (And.intro hml (And.intro hty (And.intro hfy e1))))));clear hup hvd hsm hml hty hfy;subst e1;go_wp2_with fail;refine hK.out _ _ (fun j z hj h => ?_) ⟨HX.out.1.trans HP.out.2.2.2.2.2.1, HP.out.2.2.2.2.1⟩ (fun _ => ⟨m, Ae, ce, Aa, ca, rfl, HP.out.1, HP.out.2.1, HP.out.2.2.1, HP.out.2.2.2.1⟩)
   match j with
   | 0 | 1 | 3 => exact h
   | 4 => exact absurd rfl hj
   | 2 =>
    intro hc;obtain ⟨m', Ae', ce', Aa', ca', h1, h2, h3⟩ := h (by omega)
    exact ⟨m', Ae', ce', Aa', ca', h1, h2.keep (keepF_fr HP.out.2.2.2.2.2.1) (fun k hk => by rw [List.mem_singleton] at hk; have := HW.out.2.2.2; omega), h3⟩
   | _ + 5 => exact trivial
 ·intro v wz hS hF;have e0 : v 0 = _ := hF 0 (by decide)
  have e1 : v 1 = _ := hF 1 (by decide)
  have e3 : v 3 = _ := hF 3 (by decide)
  have E2 := hF 2 (by decide)
  have E4 := hF 4 (by decide)
  simp only [putAll, Act.put, pq1, pq2, pq3, Nat.zero_add, Nat.reduceAdd, pq4, pq5, List.drop_succ_cons, List.drop_zero, e0, e1, e3];clear hF e0 e1 e3;obtain ⟨m2, Ae2, ce2, Aa2, ca2, e2, hup2, hvd2, hsm2, hml2⟩ := E2 (by decide)
  obtain ⟨m3, Ae3, ce3, Aa3, ca3, e3, hup3, hvd3, hsm3, hml3⟩ := E4 (by decide)
  rw [e2, e3];rw [e2] at hup2;rw [e3] at hup3;obtain ⟨l2, hl2⟩ : ∃ k, m2.ed.length = k := ⟨_, rfl⟩;obtain ⟨q2, hq2⟩ : ∃ k, m2.ac.length = k := ⟨_, rfl⟩;obtain ⟨l3, hl3⟩ : ∃ k, m3.ed.length = k := ⟨_, rfl⟩;obtain ⟨q3, hq3⟩ : ∃ k, m3.ac.length = k := ⟨_, rfl⟩;rw [hl2, hq2] at hup2;rw [hl3, hq3] at hup3;rw [hl2, hq2, hl3, hq3];have H2 := Lib.hid (And.intro hup2 (And.intro hvd2 hsm2));have H3 := Lib.hid (And.intro hup3 (And.intro hvd3 hsm3));have HS2 := Lib.hid hS;clear E2 E4 e2 e3 hup2 hvd2 hsm2 hml2 hup3 hvd3 hsm3 hml3 hl2 hq2 hl3 hq3 hS;go_wp2_with fail;refine wp_named fun W3 hW3 => ?_;have hb3 : Below wz.heap.size wz W3 := by rw [hW3]; exact (Below.refl _ _).alloc (Nat.le_refl _) _
  have hA3 : W3.heap[wz.heap.size]? = some (.cells #[.slice Ae1 e1 ce1, .slice Aa1 a1 ca1, .slice Ae2 l2 ce2, .slice Aa2 q2 ca2, .slice Ae3 l3 ce3, .slice Aa3 q3 ca3] 34 (0, 0)) := by rw [hW3]; exact heap_alloc_new wz _
  obtain ⟨gA, hgA⟩ : ∃ k, wz.heap.size = k := ⟨_, rfl⟩;have hFB : Below w.heap.size w W3 := HW.out.2.1.trans ((HS2.out.1.below (Nat.le_succ _) HW.out.2.1.size).trans (hb3.mono (by have := HS2.out.1.size; have := HW.out.2.1.size; omega)))
  have HALL : Hid (∀ i, i < 3 → ∃ Ae ne ce Aa na ca m, W3.cell? ⟨wz.heap.size, i * 2, none⟩ = some (.slice Ae ne ce) ∧ W3.cell? ⟨wz.heap.size, i * 2 + 1, none⟩ = some (.slice Aa na ca) ∧ McInZ W3 (.agg #[.slice Ae ne ce, .slice Aa na ca]) m ∧ ∀ r ∈ m.ed, r.length ≤ 140737488351232) := fun i hi => by
   rcases (show i = 0 ∨ i = 1 ∨ i = 2 by omega) with rfl | rfl | rfl
   ·exact ⟨Ae1, e1, ce1, Aa1, a1, ca1, m1, by rw [cell_of_row _ _ _ _ _ _ hA3]; rfl, by rw [cell_of_row _ _ _ _ _ _ hA3]; rfl, H0.out.1.later hFB, H0.out.2.1⟩
   ·exact ⟨Ae2, l2, ce2, Aa2, q2, ca2, zM m2, by rw [cell_of_row _ _ _ _ _ _ hA3]; rfl, by rw [cell_of_row _ _ _ _ _ _ hA3]; rfl, mcz_of (H2.out.1.later hb3).mc H2.out.2.1 H2.out.2.2, fun r hr => by have := zM_rows H2.out.2.2.rl r hr; omega⟩
   ·exact ⟨Ae3, l3, ce3, Aa3, q3, ca3, zM m3, by rw [cell_of_row _ _ _ _ _ _ hA3]; rfl, by rw [cell_of_row _ _ _ _ _ _ hA3]; rfl, mcz_of (H3.out.1.later hb3).mc H3.out.2.1 H3.out.2.2, fun r hr => by have := zM_rows H3.out.2.2.rl r hr; omega⟩
  have HG : Hid (wz.heap.size < W3.heap.size ∧ Below w.heap.size w W3) := ⟨(Array.getElem?_eq_some_iff.1 hA3).1, hFB⟩;have HV : Hid (VrOK W3) := H0.out.2.2.later hFB;rw [hgA] at HALL HG ⊢;clear hW3 hb3 hA3 hFB hgA HS2 H2 H3
  go_loopw [7] (fun v wr => ∃ i : Nat, i ≤ 3 ∧ v = .int .i64 (i : Int) ∧ Hid (Below W3.heap.size W3 wr)) (fun v _ => 3 - (intOf v).toNat)
  case atStart => exact ⟨0, by omega, rfl, Below.refl _ _⟩
  case round =>
   obtain ⟨i, hi, rfl, HB⟩ := hrel;by_cases hlt : i < 3
   ·have hd : decide ((i : Int) < 3) = true := decide_eq_true (by omega)
    have hdn : decide (i < 3) = true := decide_eq_true hlt;obtain ⟨Ae, ne, ce, Aa, na, ca, m, hc0, hc1, hmz, hmr⟩ := HALL.out i hlt;have x0 := (HB.out.cell (p := ⟨gA, i * 2, none⟩) HG.out.1).trans hc0;have x1 := (HB.out.cell (p := ⟨gA, i * 2 + 1, none⟩) HG.out.1).trans hc1;have lx : gA < wr.heap.size := Nat.lt_of_lt_of_le HG.out.1 HB.out.size;have HC := Lib.hid (And.intro hc0 (And.intro hc1 (And.intro hmz hmr)));have HFW := Lib.hid (few6_any _ m wr (hmz.later HB.out) (fun r hr => by have := hmr r hr; omega))
    obtain ⟨z, hz⟩ : ∃ z, fewZ m = z := ⟨_, rfl⟩;rw [hz] at HFW;have HZF := Lib.hid hz;clear hc0 hc1 hmz hmr hz;go_wp2_with fail;refine HFW.out.mono ?_;rintro e w13 ⟨rfl, hb13⟩;have HB13 := Lib.hid (HB.out.trans (hb13.mono HB.out.size));clear hb13 x0 x1 lx
    cases z with
    | false =>
     go_wp2_with fail;go_roundw
     case measure => simp [intOf]; omega
     case rel => exact ⟨i + 1, by omega, by go_num, HB13.out⟩
    | true =>
     have x0 := (HB13.out.cell (p := ⟨gA, i * 2, none⟩) HG.out.1).trans HC.out.1;have x1 := (HB13.out.cell (p := ⟨gA, i * 2 + 1, none⟩) HG.out.1).trans HC.out.2.1;have lx : gA < w13.heap.size := Nat.lt_of_lt_of_le HG.out.1 HB13.out.size;by_cases h40 : 40 < na
     ·have hd2 : decide (40 < (na : Int)) = true := decide_eq_true (by omega)
      have hd2n : decide (40 < na) = true := decide_eq_true h40;go_wp2_with fail;go_roundw
      case measure => simp [intOf]; omega
      case rel => exact ⟨i + 1, by omega, by go_num, HB13.out⟩
     ·have hd2 : decide (40 < (na : Int)) = false := decide_eq_false (by omega)
      have hd2n : decide (40 < na) = false := decide_eq_false h40;have hrr : ∀ r ∈ m.ed, r.length ≤ 10000 := fun r hr => by
       have h9 := HZF.out;unfold fewZ at h9;rw [Bool.and_eq_true, decide_eq_true_eq, decide_eq_true_eq] at h9;have := sumZ_le hr;omega
      have HL1 := Lib.hid fun W (hb : Below W3.heap.size W3 W) => mleastz_any _ m W (HC.out.2.2.1.later hb) hrr (HV.out.later hb);have HL2 := Lib.hid fun W (hb : Below W3.heap.size W3 W) => rleastz_any _ m W (HC.out.2.2.1.later hb) hrr;clear hrr;go_wp2_with fail;refine (HL1.out w13 HB13.out).mono ?_;rintro e w14 ⟨rv1, m1', ec1, rfl, hup1, hb14, hok1⟩;obtain ⟨ve1, va1, rfl, hx1, hy1⟩ := id hup1.mc;obtain ⟨A4, c4, rfl, -⟩ := hx1.form;obtain ⟨B4, d4, rfl, -⟩ := hy1.form;obtain ⟨n4, hn4⟩ : ∃ n, m1'.ed.length = n := ⟨_, rfl⟩;obtain ⟨k4, hk4⟩ : ∃ n, m1'.ac.length = n := ⟨_, rfl⟩;rw [hn4, hk4] at hup1 ⊢;have HB14 := Lib.hid (HB13.out.trans (hb14.mono HB13.out.size));have HU1 := Lib.hid (And.intro hup1 hok1);clear hx1 hy1 hn4 hk4 hup1 hok1 hb14 x0 x1 lx;have y0 := (HB14.out.cell (p := ⟨gA, i * 2, none⟩) HG.out.1).trans HC.out.1;have y1 := (HB14.out.cell (p := ⟨gA, i * 2 + 1, none⟩) HG.out.1).trans HC.out.2.1;have ly : gA < w14.heap.size := Nat.lt_of_lt_of_le HG.out.1 HB14.out.size;have lne : gA ≠ w14.heap.size := by omega
      go_wp2_with fail;refine calls_named fun W15 hW15 => ?_;have hr15 : W15.heap[w14.heap.size]? = some (.cells #[.slice A4 n4 c4, .slice B4 k4 d4] 34 (0, 0)) := by
       rw [hW15]; exact heap_alloc_new w14 _
      have hb15 : Below w14.heap.size w14 W15 := by
       rw [hW15];exact (Below.refl _ _).alloc (Nat.le_refl _) _
      have HB15 := Lib.hid (HB14.out.trans (hb15.mono HB14.out.size));have HU15 := Lib.hid (HU1.out.1.later hb15);have HR15 := Lib.hid hr15;clear hW15 hr15 hb15 y0 y1 ly lne;refine (HL2.out W15 HB15.out).mono ?_;rintro e w16 ⟨rv2, m2', ec2, rfl, hup2, hb16, hok2⟩;obtain ⟨hee, hmm, hvd, hsm⟩ := lz_same HU1.out.2 hok2;subst hee hmm;obtain ⟨ve2, va2, rfl, hx2, hy2⟩ := id hup2.mc;obtain ⟨A5, c5, rfl, -⟩ := hx2.form;obtain ⟨B5, d5, rfl, -⟩ := hy2.form;obtain ⟨n5, hn5⟩ : ∃ n, m1'.ed.length = n := ⟨_, rfl⟩;obtain ⟨k5, hk5⟩ : ∃ n, m1'.ac.length = n := ⟨_, rfl⟩;rw [hn5, hk5] at hup2 ⊢;have hr16 := (hb16.block w14.heap.size (Array.getElem?_eq_some_iff.1 HR15.out).1).trans HR15.out;obtain ⟨y0, y1⟩ : w16.cell? ⟨w14.heap.size, 0, none⟩ = some (.slice A4 n4 c4) ∧ w16.cell? ⟨w14.heap.size, 1, none⟩ = some (.slice B4 k4 d4) := by constructor <;> (rw [cell_of_row _ _ _ _ _ _ hr16]; rfl)
      have ly : w14.heap.size < w16.heap.size := (Array.getElem?_eq_some_iff.1 hr16).1;have lne : w14.heap.size ≠ w16.heap.size := by omega
      have HB16 := Lib.hid (HB15.out.trans (hb16.mono HB15.out.size));have HU16 := Lib.hid (And.intro (HU15.out.later hb16) (And.intro hup2 (And.intro hvd hsm)));clear hx2 hy2 hn5 hk5 hup2 hok2 hb16 hr16 hvd hsm;go_wp2_with fail;refine calls_named fun W17 hW17 => ?_;have hb17 : Below w16.heap.size w16 W17 := by
       rw [hW17];exact (Below.refl _ _).alloc (Nat.le_refl _) _
      have HB17 := Lib.hid (HB16.out.trans (hb17.mono HB16.out.size));have hq := requal_any _ _ m1' m1' W17 (HU16.out.1.later hb17).mc (HU16.out.2.1.later hb17).mc HU16.out.2.2.1 HU16.out.2.2.1 HU16.out.2.2.2 HU16.out.2.2.2;rw [decide_eq_true (rfl : m1' = m1')] at hq;clear hW17 hb17 y0 y1 ly lne;refine hq.mono ?_;rintro e w18 ⟨rfl, hb18⟩;have HB18 := Lib.hid (HB17.out.trans (hb18.mono HB17.out.size));clear hb18 hq;go_wp2_with fail;go_roundw
      case measure => simp [intOf]; omega
      case rel => exact ⟨i + 1, by omega, by go_num, HB18.out⟩
   ·obtain rfl : i = 3 := by omega
    have hd : decide ((3 : Int) < 3) = false := by decide
    have hdn : decide (3 < 3) = false := by decide
    go_wp2_with fail;refine (awake06 wr (HV.out.later HB.out)).mono ?_;rintro e w99 ⟨rfl, hb99⟩;have HB99 := Lib.hid (HG.out.2.trans ((HB.out.trans (hb99.mono HB.out.size)).mono HG.out.2.size));clear hb99;go_wp2_with fail;go_ret;exact ⟨rfl, HB99.out⟩
theorem least_came (A : Option Addr) (n c : Nat) (v1 : Value) (w : World) (ht : TapeArg A n w) (hraw : Came Tryz.prog w 34 v1) (hv : VrOK w) :
  Calls Tryz.prog 5 #[.slice A n c, v1] w fun e w' => e = .returned (.bool true) ∧ Below w.heap.size w w' := by
 obtain ⟨m1, hm1, hr1⟩ := machine_came hraw;exact least_law A n c v1 m1 w ht hm1 hr1 hv
end Go.Proofs.YtjhmipidmpmlmaaGreatDoor
