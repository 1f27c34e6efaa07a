/- The law ExportFormats: the call returns true, for every tape, messages and number. -/
import Derived.Test.YtklnakjmiljmhaaGreatDoorBentZ
import Derived.Test.YtklnakjmiljmhaaGreatDoorFewRZ
import Derived.Test.YtklnakjmiljmhaaGreatDoorY29
import Derived.Test.YtklnakjmiljmhaaGreatDoorY40
import Derived.Test.YtklnakjmiljmhaaGreatDoorLaw17PZ
import Derived.Test.YtklnakjmiljmhaaGreatDoorMsgQZ
namespace Go.Proofs.YtklnakjmiljmhaaGreatDoor
set_option linter.unusedVariables false
set_option linter.unusedSimpArgs false
set_option maxRecDepth 100000
open Go.RowKit
/-- Messages that lie apart from block b. -/
def MN (b : Nat) (v : Value) (l : List Ms) (w : World) : Prop := ∃ A c, v = .slice A l.length c ∧ l.length ≤ c ∧ (l = [] ∨ ∃ g f, A = some ⟨g, f, none⟩ ∧ g < w.heap.size ∧ g ≠ b ∧ ∀ i (h : i < l.length), MCell w g (f + i * 5) l[i])
theorem MN.mc {b : Nat} {v : Value} {l : List Ms} {w : World} (h : MN b v l w) : MC v l w := by
  obtain ⟨A, c, e, hc, h⟩ := h
  exact ⟨A, c, e, hc, h.imp id fun ⟨g, f, h1, h2, _, h4⟩ => ⟨g, f, h1, h2, h4⟩⟩
theorem MN.fr {b : Nat} {v : Value} {l : List Ms} {w w' : World} (h : MN b v l w) (hf : Fr b w w') : MN b v l w' := by
  obtain ⟨A, c, e, hc, h⟩ := h
  refine ⟨A, c, e, hc, h.imp id ?_⟩
  rintro ⟨g, f, h1, h2, h3, h4⟩
  exact ⟨g, f, h1, Nat.lt_of_lt_of_le h2 hf.size, h3, fun i hi => (h4 i hi).later (hf.block g h2 (by intro e; injection e; omega))⟩
theorem MN.of_mc {b : Nat} {v : Value} {l : List Ms} {w : World} (h : MC v l w) (hb : w.heap.size ≤ b) : MN b v l w := by
  obtain ⟨A, c, e, hc, h⟩ := h
  refine ⟨A, c, e, hc, h.imp id ?_⟩
  rintro ⟨g, f, h1, h2, h4⟩
  exact ⟨g, f, h1, h2, by omega, h4⟩
theorem MN.below {v : Value} {l : List Ms} {w w' : World} (h : MN w.heap.size v l w) (hb : Below w.heap.size w w') : MN w.heap.size v l w' := by
  obtain ⟨A, c, e, hc, h⟩ := h
  refine ⟨A, c, e, hc, h.imp id ?_⟩
  rintro ⟨g, f, h1, h2, h3, h4⟩
  exact ⟨g, f, h1, Nat.lt_of_lt_of_le h2 hb.size, h3, fun i hi => (h4 i hi).later (hb.block g h2)⟩
theorem own_tape {b B : Nat} {v : Value} {l : List Ms} {w : World} (h : OM B v l w) (ht : TapeOK b w) : ∀ k, v.ownBlock = some k → k ≠ b := by
  intro k hk
  rintro rfl
  obtain ⟨a, n, c, q, hb, -⟩ := ht
  rcases h.2 with ⟨rfl, -⟩ | ⟨g, cap, cur, rfl, -, hg, -⟩
  · cases hk
  · injection hk with hk
    rw [← hk] at hb
    rw [hg] at hb
    injection hb with hb
    injection hb with h1 h2 h3
    exact absurd h2 (by decide)
theorem MN.of_own {b B : Nat} {v : Value} {l : List Ms} {w : World} (h : OM B v l w) (ht : TapeOK b w) : MN b v l w := by
  have hk := own_tape h ht
  obtain ⟨A, c, rfl, hc, hcell⟩ := MC.of_own h
  refine ⟨A, c, rfl, hc, hcell.imp id ?_⟩
  rintro ⟨g, f, h1, h2, h4⟩
  exact ⟨g, f, h1, h2, hk g (by rw [h1]; rfl), h4⟩
/-- What the law looks at in a round. -/
def ListIn (b : Nat) (w : World) (v : Value) : Prop := ∃ l, MN b v l w ∧ BigM l
theorem ListIn.fr {b : Nat} {v : Value} {w w' : World} (h : ListIn b w v) (hf : Fr b w w') : ListIn b w' v := by
  obtain ⟨l, h1, h2⟩ := h
  exact ⟨l, h1.fr hf, h2⟩
theorem big_of_small {l : List Ms} (h : Small l) : BigM l := ⟨by have := h.1; omega, fun m hm => by have := h.2 m hm; omega⟩
theorem small_of_few {l : List Ms} (h : fewM l = true) : Small l := by
  obtain ⟨h1, h2⟩ := few_small h
  exact ⟨by omega, fun m hm => by have := h2 m hm; omega⟩
theorem texts_len {l : List Ms} (h : Small l) : (textsM l).length ≤ 1000000 := by
  unfold textsM keepM
  split
  · have := List.length_filter_le (fun m : Ms => !(m.kind == 3)) l; have := h.1; omega
  · simp
theorem two_ints (w : World) (T : TypeId) (a b : Int) (k : Nat) (hk : k < 2) : ∃ x : Int, (w.alloc (.cells #[.int .i64 a, .int .i64 b] T)).cell? ⟨w.heap.size, k, none⟩ = some (.int .i64 x) := by
  rcases (show k = 0 ∨ k = 1 by omega) with rfl | rfl <;> (rw [World.cell?_alloc_mark]; exact ⟨_, rfl⟩)
set_option maxRecDepth 100000 in
set_option maxHeartbeats 8000000 in
theorem formats17_law (A : Option Addr) (n c : Nat) (A1 : Option Addr) (n1 c1 : Nat) (num : Int) (w : World) (ht : TapeArg A n w) (hraw : ∃ l, MC (.slice A1 n1 c1) l w ∧ BigM l) (hv : VrOK w) :
    Calls Tryz.prog 6 #[.slice A n c, .slice A1 n1 c1, .int .i64 num] w fun e w' => e = .returned (.bool true) ∧ Below w.heap.size w w' := by
  obtain ⟨lr, hlr, hbr⟩ := hraw
  have h0 := tape_new (c := c) ht
  have hb0 := (Below.refl w.heap.size w).alloc (Nat.le_refl _) (.cells #[.slice A n c, .int .i64 0] 26)
  generalize hw0 : w.alloc (.cells #[.slice A n c, .int .i64 0] 26) = w0 at h0 hb0
  have HW0 := Lib.hid hw0
  have HV := Lib.hid hv
  have HRW := Lib.hid (show ListIn w.heap.size w (.slice A1 n1 c1) from ⟨lr, MN.of_mc hlr (Nat.le_refl _), hbr⟩)
  clear hlr
  go_enter Tryz.func6, Tryz.ntmps6
  go_wp2_with fail
  clear hw0
  refine (kinds_any w.heap.size _ h0).mono ?_
  rintro e w1 ⟨vk, rfl, hk, ht1, hf1⟩
  go_wp2_with fail
  refine (messages_any w.heap.size vk _ hk ht1).mono ?_
  rintro e w2 ⟨v, l, B, rfl, hown, h00, hn, htx, ht2, hf2⟩
  have hF : Below w.heap.size w w2 := hb0.trans ((hf1.trans hf2).below (Nat.le_refl _) hb0.size)
  obtain ⟨hs, -⟩ := made_small h00 hn htx
  have hs' : l.length ≤ 1000 ∧ ∀ m ∈ l, m.who.length ≤ 1000000 ∧ m.text.length ≤ 1000000 := ⟨by omega, hs.2⟩
  have hMN := MN.of_own hown ht2
  have HL2 := Lib.hid (show ListIn w.heap.size w2 v from ⟨l, hMN, big_of_small hs⟩)
  have HB1 := Lib.hid (fun (wx : World) (hf : Fr w.heap.size w2 wx) (htx : TapeOK w.heap.size wx) => bent_any w.heap.size v l B wx (OR.keep hown fun k hk => hf.block k (World.ownsRow.lt hown k hk).2 (by have := own_tape hown ht2 k hk; intro e; injection e; omega)) (own_tape hown ht2) hs' htx)
  obtain ⟨A2, c2, rfl, -, -⟩ := hMN
  have HA := Lib.hid (fun (w' : World) (hV : VrOK w') => awake_any w' hV)
  have H2 := Lib.hid (And.intro ht2 hF)
  clear hown h00 hn htx ht2 hf2 hs hs' hk ht1 hf1 h0 hb0 HW0 hv hF
  go_wp2_with fail
  refine (HB1.out _ (Fr.refl _ _) H2.out.1).mono ?_
  rintro e w3 ⟨u1, l1, rfl, hu1, hs1, ht3, hf3⟩
  go_wp2_with fail
  refine (HB1.out _ hf3 ht3).mono ?_
  rintro e w4 ⟨u2, l2, rfl, hu2, hs2, ht4, hf4⟩
  have hf24 := hf3.trans hf4
  have hF4 : Below w.heap.size w w4 := H2.out.2.trans (hf24.below (Nat.le_refl _) H2.out.2.size)
  have hx1 : ListIn w.heap.size w4 u1 := ⟨l1, (MN.of_own hu1 ht3).fr hf4, big_of_small hs1⟩
  have hx2 : ListIn w.heap.size w4 u2 := ⟨l2, MN.of_own hu2 ht4, big_of_small hs2⟩
  have hx0 : ListIn w.heap.size w4 (.slice A2 l.length c2) := HL2.out.fr hf24
  have hxr : ListIn w.heap.size w4 (.slice A1 n1 c1) := by
    obtain ⟨q, h1, h2⟩ := HRW.out
    exact ⟨q, h1.below hF4, h2⟩
  obtain ⟨A3, n3, c3, rfl⟩ : ∃ A n c, u1 = .slice A n c := by obtain ⟨q, ⟨A, c, e, -⟩, -⟩ := hx1; exact ⟨A, _, c, e⟩
  obtain ⟨A4, n4, c4, rfl⟩ : ∃ A n c, u2 = .slice A n c := by obtain ⟨q, ⟨A, c, e, -⟩, -⟩ := hx2; exact ⟨A, _, c, e⟩
  have hI := four_cells w4 30 (.slice A1 n1 c1) (.slice A2 l.length c2) (.slice A3 n3 c3) (.slice A4 n4 c4) (ListIn w.heap.size w4) ⟨hxr, hx0, hx1, hx2⟩
  have hbI := (Below.refl w4.heap.size w4).alloc (Nat.le_refl _) (.cells #[.slice A1 n1 c1, .slice A2 l.length c2, .slice A3 n3 c3, .slice A4 n4 c4] 30)
  have hzI : w4.heap.size < (w4.alloc (.cells #[.slice A1 n1 c1, .slice A2 l.length c2, .slice A3 n3 c3, .slice A4 n4 c4] 30)).heap.size := by simp
  have hVI := HV.out.later hF4
  have hgb : w4.heap.size ≠ w.heap.size := by have := ht4.lt; omega
  have ht5 := ht4.below hbI
  clear hx0 hx1 hx2 hxr hu1 hu2 hs1 hs2 ht3 hf3 hf4 hf24 HB1 HL2 HRW
  have hF5 : Below w.heap.size w (w4.alloc (.cells #[.slice A1 n1 c1, .slice A2 l.length c2, .slice A3 n3 c3, .slice A4 n4 c4] 30)) := hF4.trans (hbI.mono hF4.size)
  go_wp2_with fail
  have HI := Lib.hid hI
  have HG := Lib.hid hgb
  have HF5 := Lib.hid hF5
  have HF4I := Lib.hid (show Fr w.heap.size w4 (w4.alloc (.cells #[.slice A1 n1 c1, .slice A2 l.length c2, .slice A3 n3 c3, .slice A4 n4 c4] 30)) from Fr.of_below hbI)
  clear hI hgb hbI ht4 hF4 hF5 hVI H2
  generalize (w4.alloc (.cells #[.slice A1 n1 c1, .slice A2 l.length c2, .slice A3 n3 c3, .slice A4 n4 c4] 30)) = W5 at *
  obtain ⟨g5, hg5⟩ : ∃ g5, g5 = w4.heap.size := ⟨_, rfl⟩
  rw [← hg5] at HG hzI ⊢
  have HG5 := Lib.hid hg5
  clear hg5
  go_loopw [34] (fun i wr => ∃ k : Nat, k ≤ 4 ∧ i = .int .i64 (k : Int) ∧ TapeOK w.heap.size wr ∧ Fr w.heap.size W5 wr) (fun i _ => 4 - (intOf i).toNat)
  case atStart => exact ⟨0, by omega, rfl, ht5, Fr.refl _ _⟩
  case round =>
    obtain ⟨k, hk, rfl, htr, hfr⟩ := hrel
    have hFr : Below w.heap.size w wr := HF5.out.trans (hfr.below (Nat.le_refl _) HF5.out.size)
    have HFR := Lib.hid hFr
    have HTR := Lib.hid (And.intro htr hfr)
    by_cases hlt : k < 4
    · have hd : decide ((k : Int) < 4) = true := decide_eq_true (by omega)
      have hdn : decide (k < 4) = true := decide_eq_true hlt
      obtain ⟨x, hx, hcx⟩ := HI.out k hlt
      rw [← HG5.out] at hcx
      obtain ⟨lx, hm, hbig⟩ := hx.fr (HF4I.out.trans hfr)
      obtain ⟨Ax, cx, rfl, -, -⟩ := id hm
      have hc : wr.cell? ⟨g5, k, none⟩ = some (.slice Ax lx.length cx) := (World.cell?_of_block (a := ⟨g5, k, none⟩) (hfr.block g5 hzI (by have := HG.out; intro e; injection e; omega))).trans hcx
      have HM := Lib.hid hm.mc
      have hmx := hm
      have HTR2 := Lib.hid (Fr.refl w.heap.size wr)
      have HFW := Lib.hid (few_raw _ lx wr hm.mc hbig)
      clear hx hcx hm hbig htr hfr hFr
      go_wp2_with fail
      refine HFW.out.mono ?_
      rintro e w6 ⟨rfl, hb6⟩
      clear HFW
      obtain ⟨fb, hfb⟩ : ∃ fb, fewM lx = fb := ⟨_, rfl⟩
      rw [hfb]
      cases fb with
      | false =>
        clear hfb
        go_wp2
        go_roundw
        case rel => exact ⟨k + 1, by omega, by go_num, HTR.out.1.below hb6, HTR.out.2.then (hb6.mono HTR.out.2.size)⟩
        case measure => simp [intOf]; omega
      | true =>
        have hs := small_of_few hfb
        have HS := Lib.hid hs
        have HB6 := Lib.hid hb6
        have HF1 := Lib.hid (format_any _ lx w6 (HM.out.later hb6 (Nat.le_refl _)) hs (HV.out.later (HFR.out.trans (hb6.mono HFR.out.size))))
        have HF2 := Lib.hid (fun (w' : World) (hb : Below wr.heap.size wr w') => format_ref _ lx w' (HM.out.later hb (Nat.le_refl _)) hs)
        have HV1 := Lib.hid (fun (w' : World) (hb : Below wr.heap.size wr w') => valid_any _ lx w' (HM.out.later hb (Nat.le_refl _)) hs)
        have HV2 := Lib.hid (fun (w' : World) (hb : Below wr.heap.size wr w') => valid_ref17 _ lx w' (HM.out.later hb (Nat.le_refl _)) hs)
        have HT1 := Lib.hid (fun (w' : World) (hb : Below wr.heap.size wr w') => texts_any _ lx w' (HM.out.later hb (Nat.le_refl _)) hs)
        have HT2 := Lib.hid (fun (w' : World) (hb : Below wr.heap.size wr w') => texts_ref _ lx w' (HM.out.later hb (Nat.le_refl _)) hs)
        have HA1 := Lib.hid (fun (t : Int) (w' : World) (hb : MC (.slice Ax lx.length cx) lx w') => at_any _ lx t w' hb hs)
        have HA2 := Lib.hid (fun (t : Int) (w' : World) (hb : MC (.slice Ax lx.length cx) lx w') => at_ref _ lx t w' hb hs)
        clear hfb hs hb6 hc
        go_wp2_with fail
        refine HF1.out.mono ?_
        rintro e w7 ⟨u, rfl, hu, hb7⟩
        obtain ⟨Au, nu, cu, rfl⟩ := hu.form_
        obtain ⟨E, hE⟩ : ∃ E, errM lx = E := ⟨_, rfl⟩
        obtain ⟨o, ho⟩ : ∃ o, fmtO lx = o := ⟨_, rfl⟩
        rw [hE]
        rw [ho] at hu
        have h67 := HB6.out.trans (hb7.mono HB6.out.size)
        clear HF1 HB6
        go_wp2_with fail
        refine (HF2.out _ h67).mono ?_
        rintro e w8 ⟨u', rfl, hu', hb8⟩
        obtain ⟨Av, nv, cv, rfl⟩ := hu'.form_
        rw [hE]
        rw [ho] at hu'
        have hu8 := hu.after hb8
        have hcv1 := hu8.conv (P := Tryz.prog) (T := 23) (d := 9) Tryz.underlying23 Tryz.underlying5 Tryz.underlying9
        have hcv2 := hu'.conv (P := Tryz.prog) (T := 23) (d := 9) Tryz.underlying23 Tryz.underlying5 Tryz.underlying9
        have h68 := h67.trans (hb8.mono h67.size)
        clear hu hu' hu8 hb7 hb8 h67 HF2 ho
        have HE := Lib.hid hE
        clear hE
        go_wp2_with fail
        refine (HV1.out _ h68).mono ?_
        rintro e w9 ⟨rfl, hb9⟩
        rw [HE.out]
        have h69 := h68.trans (hb9.mono h68.size)
        clear hcv1 hcv2 h68 hb9 HV1
        go_wp2_with fail
        refine (HV2.out _ h69).mono ?_
        rintro e w10 ⟨rfl, hb10⟩
        rw [HE.out]
        have h610 := h69.trans (hb10.mono h69.size)
        clear h69 hb10 HV2
        go_wp2_with fail
        refine (HT1.out _ h610).mono ?_
        rintro e w11 ⟨t1, rfl, ht1, hb11⟩
        have h611 := h610.trans (hb11.mono h610.size)
        clear h610 HT1
        go_wp2_with fail
        refine (HT2.out _ h611).mono ?_
        rintro e w12 ⟨t2, rfl, ht2, hb12⟩
        have h612 := h611.trans (hb12.mono h611.size)
        have hsm := same_msgs t1 t2 (textsM lx) w12 ((MC.of_own ht1).later hb12 (Nat.le_refl _)) (MC.of_own ht2) (texts_len HS.out)
        clear h611 HT2 ht1 ht2 hb11 hb12
        go_wp2_with fail
        refine hsm.mono ?_
        rintro e w13 ⟨rfl, hb13⟩
        have h613 := h612.trans (hb13.mono h612.size)
        clear h612 hb13 hsm
        have ht13 := HTR.out.1.below h613
        go_wp2_with fail
        refine (next_any w.heap.size 20 _ (by omega) (by omega) ht13).mono ?_
        rintro e w14 ⟨q, rfl, q0, q1, ht14, hf14⟩
        have hfr14 : Fr w.heap.size wr w14 := (Fr.of_below h613).trans hf14
        have hbI2 := (Below.refl w14.heap.size w14).alloc (Nat.le_refl _) (.cells #[.int .i64 num, .int .i64 q] 3)
        have hJ := two_ints w14 3 num q
        have hzJ : w14.heap.size < (w14.alloc (.cells #[.int .i64 num, .int .i64 q] 3)).heap.size := by simp
        have hM15 : Fr w.heap.size wr (w14.alloc (.cells #[.int .i64 num, .int .i64 q] 3)) := hfr14.then (hbI2.mono hfr14.size)
        have ht15 := ht14.below hbI2
        clear ht14 hf14 hfr14 hbI2 ht13 h613 q0 q1
        go_wp2_with fail
        generalize (w14.alloc (.cells #[.int .i64 num, .int .i64 q] 3)) = W15 at *
        generalize w14.heap.size = g14 at *
        have HJ := Lib.hid hJ
        have HMX := Lib.hid (hmx.fr (HTR2.out.trans hM15))
        have HWE := Lib.hid (show TapeOK w.heap.size W15 ∧ Fr w.heap.size W5 W15 from ⟨ht15, HTR.out.2.trans hM15⟩)
        clear hJ hM15 ht15
        obtain ⟨W4r, rfl⟩ : ∃ W4r : World, W4r = wr := ⟨_, rfl⟩
        go_loopw [81] (fun i wi => ∃ j : Nat, j ≤ 2 ∧ i = .int .i64 (j : Int) ∧ Below W15.heap.size W15 wi) (fun i _ => (2 - intOf i).toNat)
        case atStart => exact ⟨0, by omega, rfl, Below.refl _ _⟩
        case round =>
          obtain ⟨j, hj, rfl, hbi⟩ := hrel
          by_cases hlj : j < 2
          · obtain ⟨tt, hct⟩ := HJ.out j hlj
            have hc2 : wr.cell? ⟨g14, j, none⟩ = some (.int .i64 tt) := (hbi.cell (p := ⟨g14, j, none⟩) hzJ).trans hct
            have hd2 : decide ((j : Int) < 2) = true := decide_eq_true (by omega)
            have hd2n : decide (j < 2) = true := decide_eq_true hlj
            have HAx := Lib.hid (HA1.out tt wr (HMX.out.mc.later hbi (Nat.le_refl _)))
            have HAy := Lib.hid (fun (w' : World) (hb : Below wr.heap.size wr w') => HA2.out tt w' ((HMX.out.mc.later hbi (Nat.le_refl _)).later hb (Nat.le_refl _)))
            have hal := at_len lx tt (by have := HS.out.1; omega)
            have HAL := Lib.hid hal
            clear hct hal
            go_wp2_with fail
            refine HAx.out.mono ?_
            rintro e w16 ⟨a1, rfl, ha1, hb16⟩
            go_wp2_with fail
            refine (HAy.out _ hb16).mono ?_
            rintro e w17 ⟨a2, rfl, ha2, hb17⟩
            have hsm := same_msgs a1 a2 (atM lx tt) w17 (ha1.later hb17 (Nat.le_refl _)) ha2.mc HAL.out
            have hbi17 := hbi.trans ((hb16.trans (hb17.mono hb16.size)).mono hbi.size)
            clear HAx HAy ha1 ha2 hb16 hb17
            go_wp2_with fail
            refine hsm.mono ?_
            rintro e w18 ⟨rfl, hb18⟩
            have hbi18 := hbi17.trans (hb18.mono hbi17.size)
            clear hbi17 hb18 hsm
            go_wp2
            go_roundw
            case rel => exact ⟨j + 1, by omega, by go_num, hbi18⟩
            case measure => simp [intOf]; omega
          · have hd2 : decide ((j : Int) < 2) = false := decide_eq_false (by omega)
            have hd2n : decide (j < 2) = false := decide_eq_false hlj
            clear hlj
            go_wp2
            go_roundw
            case rel => exact ⟨k + 1, by omega, by go_num, HWE.out.1.below hbi, HWE.out.2.then (hbi.mono HWE.out.2.size)⟩
            case measure => simp [intOf]; omega
    · have hd : decide ((k : Int) < 4) = false := decide_eq_false (by omega)
      have hdn : decide (k < 4) = false := decide_eq_false hlt
      clear hlt htr hfr
      go_wp2_with fail
      refine (HA.out _ (HV.out.later hFr)).mono ?_
      rintro e w14 ⟨rfl, hb14⟩
      go_wp2_with fail
      go_ret
      exact ⟨rfl, hFr.trans (hb14.mono hFr.size)⟩
theorem formats17_came (A : Option Addr) (n c : Nat) (v1 : Value) (num : Int) (w : World) (ht : TapeArg A n w) (hraw : Came Tryz.prog w 30 v1) (hv : VrOK w) :
    Calls Tryz.prog 6 #[.slice A n c, v1, .int .i64 num] w fun e w' => e = .returned (.bool true) ∧ Below w.heap.size w w' := by
  obtain ⟨A1, n1, c1, l, rfl, h1, h2⟩ := msgs_came hraw
  exact formats17_law A n c A1 n1 c1 num w ht ⟨l, h1, h2⟩ hv
end Go.Proofs.YtklnakjmiljmhaaGreatDoor
