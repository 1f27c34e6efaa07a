/- Archives: walking the example. -/
import Derived.Test.YthmpcdjhighhgaaGreatDoorArcFZ
import Derived.Test.YthmpcdjhighhgaaGreatDoorY07
import Derived.StillTailTactics
namespace Go.Proofs.YthmpcdjhighhgaaGreatDoor
set_option linter.unusedVariables false
set_option linter.unusedSimpArgs false
set_option maxRecDepth 100000
open Go.RowKit
theorem join1_any (g c : Nat) (s sep : ByteArray) (w : World) (h0 : w.cell? ⟨g, 0, none⟩ = some (.string s)) : Calls Tryz.prog 76 #[.slice (some ⟨g, 0, none⟩) 1 c, .string sep] w fun e w' => e = .returned (.string s) ∧ w' = w := by
  go_enter Tryz.func76, Tryz.ntmps76
  go_wp2_with fail
  go_ret
  exact ⟨rfl, rfl⟩
theorem cloneS0_any (w : World) : Calls Tryz.prog 75 #[.slice none 0 0] w fun e w' => e = .returned (.slice none 0 0) ∧ w' = w := by
  have hnil := fun w => Lib.run_eql_slice_nil (P := Tryz.prog) w 140 9 none 0 0 0 0 Tryz.underlying140
  go_enter Tryz.func75, Tryz.ntmps75
  go_wp2_with fail
  go_ret
  exact ⟨rfl, rfl⟩
theorem info_st : (Tryz.prog.info? 9).map (fun i => (i.zero, i.size, i.bytes)) = some (some (.string ⟨#[]⟩), 1, 16) := by kernel_rfl
/-- All blocks but one stay. -/
def KpW (p : Nat) (w w' : World) : Prop := (∀ k, k < w.heap.size → k ≠ p → w'.heap[k]? = w.heap[k]?) ∧ w.heap.size ≤ w'.heap.size
theorem KpW.refl (p : Nat) (w : World) : KpW p w w := ⟨fun _ _ _ => rfl, Nat.le_refl _⟩
theorem KpW.trans {p : Nat} {a b c : World} (h : KpW p a b) (h' : KpW p b c) : KpW p a c := ⟨fun k hk hn => (h'.1 k (Nat.lt_of_lt_of_le hk h.2) hn).trans (h.1 k hk hn), Nat.le_trans h.2 h'.2⟩
theorem KpW.of (p : Nat) {w w' : World} (hb : Below w.heap.size w w') : KpW p w w' := ⟨fun k hk _ => hb.block k hk, hb.size⟩
/-- The example's entry. -/
def enX (ad : Addr) (c' : Nat) : EnV := ⟨⟨#[97]⟩, some ad, 1, c'⟩
/-- What the region that adds an entry has left. -/
def factW (p b g3 c3 : Nat) (ad : Addr) (c' : Nat) : Nat → Value → World → Prop
  | 0, x, _ => x = .pointer (some ⟨p, 0, none⟩)
  | 1, x, _ => x = .pointer (some ⟨p, 0, none⟩)
  | 2, x, _ => x = .pointer (some ⟨p, 0, none⟩)
  | 3, x, _ => x = .pointer (some ⟨p, 0, none⟩)
  | 4, x, _ => x = .slice none 0 0
  | 5, x, _ => x = .slice (some ⟨g3, 0, none⟩) 1 c3
  | 6, x, _ => x = .string ⟨#[97]⟩
  | 7, x, _ => x = .pointer (some ⟨b, 1, none⟩)
  | 8, x, _ => x = .slice (some ad) 1 c'
  | 9, x, _ => x = .agg #[.string ⟨#[97]⟩, .slice (some ad) 1 c']
  | 10, x, w => ∃ g, x = .slice (some ⟨g, 0, none⟩) 1 1 ∧ g ≠ p ∧ w.heap[g]? = some (.cells #[.string ⟨#[97]⟩, .slice (some ad) 1 c'] 55 (0, 0))
  | 11, x, w => ∃ A c, x = .slice A 1 c ∧ OR 55 2 encEn p x [enX ad c'] w ∧ x.ownBlock ≠ some p
  | 12, x, _ => x = .pointer (some ⟨p, 0, none⟩)
  | 13, x, _ => x = .pointer (some ⟨p, 0, none⟩)
  | _, _, _ => True
theorem factW_keep {p b g3 c3 : Nat} {ad : Addr} {c' : Nat} {w w' : World} (hk : KpW p w w') : ∀ (j : Nat) (x : Value), factW p b g3 c3 ad c' j x w → factW p b g3 c3 ad c' j x w' := by
  intro j x h
  match j with
  | 0 | 1 | 2 | 3 | 4 | 5 | 6 | 7 | 8 | 9 | 12 | 13 => exact h
  | 10 =>
    obtain ⟨g, e, hn, hr⟩ := h
    exact ⟨g, e, hn, (hk.1 g (Array.getElem?_eq_some_iff.1 hr).1 hn).trans hr⟩
  | 11 =>
    obtain ⟨A, c, e, ho, hn⟩ := h
    exact ⟨A, c, e, OR.keep ho (fun k hk' => hk.1 k (World.ownsRow.lt ho k hk').2 (by rintro rfl; exact hn hk')), hn⟩
  | _ + 14 => exact trivial
/-- The world in that region. -/
def StW (p : Nat) (ad : Addr) (c' : Nat) (W : World) (f : Nat → Bool) (w : World) : Prop :=
  (f 14 = false → w.heap[p]? = some (.cells #[.slice none 0 0, .int .i64 65535] 86 (0, 0))) ∧ (f 14 = true → ∃ A c, w.heap[p]? = some (.cells #[.slice A 1 c, .int .i64 65535] 86 (0, 0)) ∧ OR 55 2 encEn p (.slice A 1 c) [enX ad c'] w) ∧ KpW p W w ∧ Below p W w
theorem StW.step {p : Nat} {ad : Addr} {c' : Nat} {W : World} {f : Nat → Bool} {w w' : World} (h : StW p ad c' W f w) (i : Nat) (hi : i ≠ 14) (h14 : f 14 = false) (hp : p < W.heap.size) (hb : Below w.heap.size w w') : StW p ad c' W (upI f i) w' := by
  have e : upI f i 14 = false := by rw [← h14]; unfold upI; rw [if_neg (Ne.symm hi)]
  obtain ⟨h1, -, h3, h4⟩ := h
  have hr := h1 h14
  refine ⟨fun _ => (hb.block p (Array.getElem?_eq_some_iff.1 hr).1).trans hr, fun h => (by rw [e] at h; cases h), h3.trans (KpW.of p hb), h4.trans (hb.mono (by have := h4.size; omega))⟩
set_option maxHeartbeats 8000000 in
theorem walk1_any (p g c : Nat) (ad : Addr) (c' : Nat) (w : World) (hg : g < p) (hc : 1 ≤ c) (hc' : 1 ≤ c') (hp : w.heap[p]? = some (.cells #[.slice none 0 0, .int .i64 65536] 86 (0, 0))) (h0 : w.cell? ⟨g, 0, none⟩ = some (.string ⟨#[97]⟩)) (h1 : w.cell? ⟨g, 1, none⟩ = some (.slice (some ad) 1 c')) :
    Calls Tryz.prog 36 #[.pointer (some ⟨p, 0, none⟩), .slice (some ⟨g, 0, none⟩) 1 c, .slice none 0 0] w fun e w' => e = .returned (.bool true) ∧ (∃ v, w'.heap[p]? = some (.cells #[v, .int .i64 65535] 86 (0, 0)) ∧ OR 55 2 encEn p v [⟨⟨#[97]⟩, some ad, 1, c'⟩] w') ∧ Below p w w' := by
  go_enter Tryz.func36, Tryz.ntmps36
  go_wp2_with fail
  refine wp_loop_rounds 2 ?_
  rw [rounds_succ]
  go_wp2_with fail
  have hpl := (Array.getElem?_eq_some_iff.1 hp).1
  obtain ⟨is, his, hs0, hs1, hs2⟩ := info_parts info_st
  obtain ⟨ie, hie, he0, he1, he2⟩ := info_parts info_en
  have hbA : Below w.heap.size w (w.alloc (.cells #[.string ⟨#[97]⟩, .slice (some ad) 1 c'] 55)) := (Below.refl _ _).alloc (Nat.le_refl _) _
  have hrA : (w.alloc (.cells #[.string ⟨#[97]⟩, .slice (some ad) 1 c'] 55)).heap[w.heap.size]? = some (.cells #[.string ⟨#[97]⟩, .slice (some ad) 1 c'] 55 (0, 0)) := heap_alloc_new w _
  have hzA : (w.alloc (.cells #[.string ⟨#[97]⟩, .slice (some ad) 1 c'] 55)).heap.size = w.heap.size + 1 := by simp
  generalize (w.alloc (.cells #[.string ⟨#[97]⟩, .slice (some ad) 1 c'] 55)) = WA at *
  have a0 : WA.cell? ⟨w.heap.size, 0, none⟩ = some (.string ⟨#[97]⟩) := by rw [cell_of_row _ _ _ _ _ _ hrA]; rfl
  have hlk := row_look (heap_alloc_new WA.drew (.cells #[.string ⟨#[97]⟩] 9))
  have HPW := Lib.hid hp
  have HRA := Lib.hid hrA
  have HBA := Lib.hid hbA
  have hBs : p ≤ (WA.drew.alloc (.cells #[.string ⟨#[97]⟩] 9)).heap.size := by simp; omega
  have HZA := Lib.hid hzA
  clear hp hrA hbA hzA
  go_region_held3 (fun w' => w'.cell? ⟨w.heap.size, 0, none⟩ = some (.string ⟨#[97]⟩))
    (first | go_keep | exact a0 | exact a30)
    (first
      | (go_at_call 75; refine (cloneS0_any _).mono ?_; rintro e w2 ⟨rfl, rfl⟩)
      | (refine step_append_lies _ (by rfl) _ _ _ (by rfl) p 9 is (.string ⟨#[]⟩) 1 16 Tryz.underlying140 his hs0 hs1 hs2 rfl (by decide) (.slice none 0 0) 0 [] (by rfl) (World.ownsRow_nil _ _ _ _) ⟨WA.drew.heap.size, 0, none⟩ 1 1 [.string ⟨#[97]⟩] (by rfl) rfl hlk (by simp [Value.oneCell']) (by decide) (by decide) (by decide) hBs _ rfl ?_; intro g3 c3 w3 ho3 hg3 hor3 hlt3; have a30 : w3.cell? ⟨w.heap.size, 0, none⟩ = some (.string ⟨#[97]⟩) := (World.cell?_of_block ((hg3.block w.heap.size (by have := HZA.out; simp; omega) (fun e => by cases e)).trans (Below.heap_alloc _ _ _ (by have := HZA.out; show w.heap.size < WA.heap.size; omega)))).trans a0))
  all_goals
    have hk3 : ∀ k, k < WA.heap.size → w3.heap[k]? = WA.heap[k]? := fun k hk => (hg3.block k (by simp; omega) (fun e => by cases e)).trans (Below.heap_alloc _ _ _ hk)
    have hb3 : Below w.heap.size w w3 := ((HBA.out.drew).alloc (by have := HBA.out.size; exact this) _).grown hg3 (by have := HBA.out.size; simp; omega) (fun k hk => by cases hk)
    have hp3 := (hb3.block p hpl).trans HPW.out
    have hr3 := (hk3 w.heap.size (by have := HZA.out; omega)).trans HRA.out
    have q0 : w3.cell? ⟨p, 0, none⟩ = some (.slice none 0 0) := by rw [cell_of_row _ _ _ _ _ _ hp3]; rfl
    have q1 : w3.cell? ⟨p, 1, none⟩ = some (.int .i64 65536) := by rw [cell_of_row _ _ _ _ _ _ hp3]; rfl
    have f1 : w3.frozen? ⟨p, 1, none⟩ = false := by simp [World.frozen?, hp3]
    have b0 : w3.cell? ⟨w.heap.size, 0, none⟩ = some (.string ⟨#[97]⟩) := by rw [cell_of_row _ _ _ _ _ _ hr3]; rfl
    have b1 : w3.cell? ⟨w.heap.size, 1, none⟩ = some (.slice (some ad) 1 c') := by rw [cell_of_row _ _ _ _ _ _ hr3]; rfl
    have hne : ¬ w.heap.size = p := by omega
    have hne' : ¬ p = w.heap.size := by omega
    have HB3 := Lib.hid hb3
    have HP3 := Lib.hid hp3
    have HR3 := Lib.hid hr3
    clear hk3 hb3 hp3 hr3 a0 a30 hlk HPW HRA HBA hBs hg3
    go_wp2_with fail
    go_still_tail 10, (by kernel_rfl)
    show wpList _ _ _ _ _ w3.drew
    go_wp2_with fail
    obtain ⟨W4, hW4⟩ : ∃ W4, W4 = (w3.setCell ⟨p, 1, none⟩ (.int .i64 65535)).drew := ⟨_, rfl⟩
    have hp4 : W4.heap[p]? = some (.cells #[.slice none 0 0, .int .i64 65535] 86 (0, 0)) := by rw [hW4]; exact set_rowS (w := w3) HP3.out 1 _
    have hr4 : W4.heap[w.heap.size]? = some (.cells #[.string ⟨#[97]⟩, .slice (some ad) 1 c'] 55 (0, 0)) := by rw [hW4]; exact (Below.heap_setCell w3 ⟨p, 1, none⟩ _ _ hne).trans HR3.out
    have hg3p : g3 ≠ p := by
      rcases hor3 with h | h
      · cases h
      · have := HZA.out
        intro e
        rw [e] at h
        simp at h
        omega
    have hg3c : W4.cell? ⟨g3, 0, none⟩ = some (.string ⟨#[97]⟩) := by rw [hW4]; exact (World.cell?_of_block (Below.heap_setCell w3 ⟨p, 1, none⟩ _ _ hg3p)).trans (by have := World.ownsRow.cellAt ho3 0 (by decide); simpa using this)
    have hb4 : Below p w W4 := by rw [hW4]; exact ((HB3.out.mono (show p ≤ w.heap.size by omega)).setCell (p := ⟨p, 1, none⟩) (Nat.le_refl _) _).drew
    have hz4 : w.heap.size < W4.heap.size := (Array.getElem?_eq_some_iff.1 hr4).1
    have HG3 := Lib.hid (show g3 < W4.heap.size from by rw [hW4]; simpa [World.setCell] using hlt3)
    rw [← hW4]
    clear hW4
    have z0 : W4.cell? ⟨p, 0, none⟩ = some (.slice none 0 0) := by rw [cell_of_row _ _ _ _ _ _ hp4]; rfl
    have z1 : W4.cell? ⟨w.heap.size, 1, none⟩ = some (.slice (some ad) 1 c') := by rw [cell_of_row _ _ _ _ _ _ hr4]; rfl
    have hS0 : StW p ad c' W4 (fun _ => false) W4.drew := ⟨fun _ => hp4, fun h => (by cases h), KpW.refl _ _, (Below.refl _ _).drew⟩
    have hpz : p < W4.heap.size := by omega
    have HP4 := Lib.hid hp4
    have HR4 := Lib.hid hr4
    have HB4 := Lib.hid hb4
    have HZ4 := Lib.hid hz4
    obtain ⟨b, hbe⟩ : ∃ b, b = w.heap.size := ⟨_, rfl⟩
    rw [← hbe] at z1 ⊢
    have HBE := Lib.hid hbe
    have HNE := Lib.hid (show b ≠ p by omega)
    have HBZ := Lib.hid (show b < W4.heap.size by omega)
    clear hp4 hr4 hb4 q0 q1 f1 b0 b1 HB3 HP3 HR3 ho3 hor3 HZA hne hne' hz4 hbe
    refine wp_region_facts (fun _ => factW p b g3 c3 ad c') (StW p ad c' W4) (by kernel_rfl) (by kernel_rfl) (by kernel_rfl) hS0 ?_ ?_
    · refine FSteps.cons ?_ (FSteps.cons ?_ (FSteps.cons ?_ (FSteps.cons ?_ (FSteps.cons ?_ (FSteps.cons ?_ (FSteps.cons ?_ (FSteps.cons ?_ (FSteps.cons ?_ (FSteps.cons ?_ (FSteps.cons ?_ (FSteps.cons ?_ (FSteps.cons ?_ (FSteps.cons ?_ (FSteps.cons ?_ FSteps.nil))))))))))))))
      all_goals (intro f v w0 h0 hpre hE hF hcl hU hS K hK; simp only [putAll, Act.put, List.setIfInBounds_toArray, List.set_cons_zero, List.set_cons_succ, Nat.zero_add, Nat.reduceAdd] at hK ⊢)
      · have h14 := closed_not hcl 20 14 0 (by kernel_rfl) h0
        have HX := Lib.hid hS
        clear hS hE hF hU
        go_wp2_with fail
        exact hK.out _ _ (HX.out.step 0 (by decide) h14 hpz (Below.refl _ _)) (fun j _ _ h => factW_keep (KpW.refl _ _) j _ h) rfl
      · have h14 := closed_not hcl 20 14 1 (by kernel_rfl) h0
        have HX := Lib.hid hS
        clear hS hE hF hU
        go_wp2_with fail
        exact hK.out _ _ (HX.out.step 1 (by decide) h14 hpz (Below.refl _ _)) (fun j _ _ h => factW_keep (KpW.refl _ _) j _ h) rfl
      · have h14 := closed_not hcl 20 14 2 (by kernel_rfl) h0
        have e1 : v 1 = _ := hE.1 rfl
        rw [e1] at hK ⊢
        have HX := Lib.hid hS
        clear hS hE hF hU
        go_wp2_with fail
        exact hK.out _ _ (HX.out.step 2 (by decide) h14 hpz (Below.refl _ _)) (fun j _ _ h => factW_keep (KpW.refl _ _) j _ h) rfl
      · have h14 := closed_not hcl 20 14 3 (by kernel_rfl) h0
        have e2 : v 2 = _ := hE.1 rfl
        rw [e2] at hK ⊢
        have HX := Lib.hid hS
        clear hS hE hF hU
        go_wp2_with fail
        exact hK.out _ _ (HX.out.step 3 (by decide) h14 hpz (Below.refl _ _)) (fun j _ _ h => factW_keep (KpW.refl _ _) j _ h) rfl
      · have h14 := closed_not hcl 20 14 4 (by kernel_rfl) h0
        have e3 : v 3 = _ := hE.1 rfl
        rw [e3] at hK ⊢
        have cp : w0.cell? ⟨p, 0, none⟩ = some (.slice none 0 0) := by rw [cell_of_row _ _ _ _ _ _ (hS.1 h14)]; rfl
        have HX := Lib.hid hS
        clear hS hE hF hU
        go_wp2_with fail
        exact hK.out _ _ (HX.out.step 4 (by decide) h14 hpz (Below.refl _ _)) (fun j _ _ h => factW_keep (KpW.refl _ _) j _ h) rfl
      · have h14 := closed_not hcl 20 14 5 (by kernel_rfl) h0
        have HX := Lib.hid hS
        clear hS hE hF hU
        go_wp2_with fail
        exact hK.out _ _ (HX.out.step 5 (by decide) h14 hpz (Below.refl _ _)) (fun j _ _ h => factW_keep (KpW.refl _ _) j _ h) rfl
      · have h14 := closed_not hcl 20 14 6 (by kernel_rfl) h0
        have e5 : v 5 = _ := hE.1 rfl
        rw [e5] at hK ⊢
        have hj := join1_any g3 c3 ⟨#[97]⟩ ⟨#[33]⟩ w0 ((World.cell?_of_block (hS.2.2.1.1 g3 HG3.out hg3p)).trans hg3c)
        have HX := Lib.hid hS
        clear hS hE hF hU
        go_wp2_with fail
        refine hj.mono ?_
        rintro e w1' ⟨rfl, rfl⟩
        clear hj
        go_wp2_with fail
        exact hK.out _ _ (HX.out.step 6 (by decide) h14 hpz (Below.refl _ _)) (fun j _ _ h => factW_keep (KpW.refl _ _) j _ h) rfl
      · have h14 := closed_not hcl 20 14 7 (by kernel_rfl) h0
        have HX := Lib.hid hS
        clear hS hE hF hU
        go_wp2_with fail
        exact hK.out _ _ (HX.out.step 7 (by decide) h14 hpz (Below.refl _ _)) (fun j _ _ h => factW_keep (KpW.refl _ _) j _ h) rfl
      · have h14 := closed_not hcl 20 14 8 (by kernel_rfl) h0
        have e7 : v 7 = _ := hE.1 rfl
        rw [e7] at hK ⊢
        have cb : w0.cell? ⟨b, 1, none⟩ = some (.slice (some ad) 1 c') := (World.cell?_of_block (hS.2.2.1.1 b HBZ.out HNE.out)).trans z1
        have HX := Lib.hid hS
        clear hS hE hF hU
        go_wp2_with fail
        exact hK.out _ _ (HX.out.step 8 (by decide) h14 hpz (Below.refl _ _)) (fun j _ _ h => factW_keep (KpW.refl _ _) j _ h) rfl
      · have h14 := closed_not hcl 20 14 9 (by kernel_rfl) h0
        have e6 : v 6 = _ := hE.1 rfl
        have e8 : v 8 = _ := hE.2.1 rfl
        rw [e6, e8] at hK ⊢
        have HX := Lib.hid hS
        clear hS hE hF hU
        go_wp2_with fail
        exact hK.out _ _ (HX.out.step 9 (by decide) h14 hpz (Below.refl _ _)) (fun j _ _ h => factW_keep (KpW.refl _ _) j _ h) rfl
      · have h14 := closed_not hcl 20 14 10 (by kernel_rfl) h0
        have e9 : v 9 = _ := hE.1 rfl
        rw [e9] at hK ⊢
        have hb10 : Below w0.heap.size w0 (w0.alloc (.cells #[.string ⟨#[97]⟩, .slice (some ad) 1 c'] 55)) := (Below.refl _ _).alloc (Nat.le_refl _) _
        have hpl0 : w0.heap.size ≠ p := by have := hS.2.2.1.2; omega
        have HX := Lib.hid hS
        have HPL := Lib.hid hpl0
        have HB10 := Lib.hid hb10
        clear hS hE hF hU hpl0 hb10
        go_wp2_with fail
        exact hK.out _ _ (HX.out.step 10 (by decide) h14 hpz HB10.out) (fun j _ _ h => factW_keep (KpW.of _ HB10.out) j _ h) ⟨w0.heap.size, rfl, HPL.out, heap_alloc_new w0 _⟩
      · have h14 := closed_not hcl 20 14 11 (by kernel_rfl) h0
        have e4 : v 4 = _ := hE.1 rfl
        obtain ⟨g, e10, hgp, hgr⟩ := hE.2.1 rfl
        rw [e4, e10] at hK ⊢
        have hlk := row_look hgr
        have hbs : p ≤ w0.heap.size := by have := hS.2.2.1.2; omega
        have hpr := hS.1 h14
        have HX := Lib.hid hS
        clear hS hE hF hU
        go_wp2_with (at_builtin; go_loud (refine wpList_append_own _ rfl _ _ _ rfl p 55 ie (.agg #[.string ⟨#[]⟩, .slice none 0 0]) 2 40 Tryz.underlying56 hie he0 he1 he2 rfl (by decide) (.slice none 0 0) 0 [] rfl (World.ownsRow_nil _ _ _ _) ⟨g, 0, none⟩ 1 1 [.string ⟨#[97]⟩, .slice (some ad) 1 c'] rfl rfl hlk (by simp [Value.oneCell']) (by decide) (by decide) hbs ?_); intro v5 w5 ho5 hg5 hn5)
        have hb5 : Below w0.heap.size w0 w5 := (Below.refl _ _).grown hg5 (Nat.le_refl _) (fun k hk => by cases hk)
        have ho6 : OR 55 2 encEn p v5 [enX ad c'] w5 := by simpa [OR, rowF, encEn, enX] using ho5
        have hp5 := (hb5.block p (Array.getElem?_eq_some_iff.1 hpr).1).trans hpr
        obtain ⟨g6, cap6, e6, hn6⟩ : ∃ g6 cap6, v5 = .slice (some ⟨g6, 0, none⟩) 1 cap6 ∧ g6 ≠ p := by
          rcases ho6.2 with ⟨-, h⟩ | ⟨g6, cap6, cur6, e6, -, hr6, -⟩
          · simp at h
          · refine ⟨g6, cap6, e6, ?_⟩
            rintro rfl
            rw [hr6] at hp5
            injection hp5 with hp5
            injection hp5 with h6 h7
            exact absurd h7 (by decide)
        subst e6
        exact hK.out _ _ (HX.out.step 11 (by decide) h14 hpz hb5) (fun j _ _ h => factW_keep (KpW.of _ hb5) j _ h) ⟨_, _, rfl, ho6, fun e => by injection e with e; exact hn6 e⟩
      · have h14 := closed_not hcl 20 14 12 (by kernel_rfl) h0
        have e0 : v 0 = _ := hE.1 rfl
        rw [e0] at hK ⊢
        have HX := Lib.hid hS
        clear hS hE hF hU
        go_wp2_with fail
        exact hK.out _ _ (HX.out.step 12 (by decide) h14 hpz (Below.refl _ _)) (fun j _ _ h => factW_keep (KpW.refl _ _) j _ h) rfl
      · have h14 := closed_not hcl 20 14 13 (by kernel_rfl) h0
        have e12 : v 12 = _ := hE.1 rfl
        rw [e12] at hK ⊢
        have HX := Lib.hid hS
        clear hS hE hF hU
        go_wp2_with fail
        exact hK.out _ _ (HX.out.step 13 (by decide) h14 hpz (Below.refl _ _)) (fun j _ _ h => factW_keep (KpW.refl _ _) j _ h) rfl
      · have e13 : v 13 = _ := hE.1 rfl
        obtain ⟨A, c11, e11, ho, hn⟩ := hE.2.1 rfl
        rw [e13, e11] at hK ⊢
        rw [e11] at ho hn
        have hrow := hS.1 h0
        have cp : w0.cell? ⟨p, 0, none⟩ = some (.slice none 0 0) := by rw [cell_of_row _ _ _ _ _ _ hrow]; rfl
        have cf : w0.frozen? ⟨p, 0, none⟩ = false := by simp [World.frozen?, hrow]
        have HX := Lib.hid hS
        have HO := Lib.hid (And.intro ho (And.intro hn hrow))
        clear hS hE hF hU ho hn hrow
        go_wp2_with fail
        have hkw : KpW p w0 (w0.setCell ⟨p, 0, none⟩ (.slice A 1 c11)) := ⟨fun k _ hk => Below.heap_setCell w0 ⟨p, 0, none⟩ _ k hk, by simp [World.setCell]⟩
        refine hK.out undef _ ⟨fun h => (by cases h), fun _ => ⟨A, c11, set_rowS HO.out.2.2 0 _, OR.keep HO.out.1 (fun k hk' => hkw.1 k (World.ownsRow.lt HO.out.1 k hk').2 (by rintro rfl; exact HO.out.2.1 hk'))⟩, HX.out.2.2.1.trans hkw, HX.out.2.2.2.setCell (p := ⟨p, 0, none⟩) (Nat.le_refl _) _⟩ (fun j _ _ h => factW_keep hkw j _ h) trivial
    · intro f v w' hall hF hS
      obtain ⟨A, c11, hrow, ho⟩ := hS.2.1 (hall 14 (by decide))
      have hbW := HB4.out.trans hS.2.2.2
      have cb : w'.cell? ⟨b, 1, none⟩ = some (.slice (some ad) 1 c') := (World.cell?_of_block (hS.2.2.1.1 b HBZ.out HNE.out)).trans z1
      simp only [putAll, Act.put, List.setIfInBounds_toArray, List.set_cons_zero, List.set_cons_succ, Nat.zero_add, Nat.reduceAdd]
      have HX := Lib.hid (And.intro hrow (And.intro ho hbW))
      have hz' : p < w'.heap.size := (Array.getElem?_eq_some_iff.1 hrow).1
      clear hF hall hS hrow ho hbW
      go_wp2_with fail
      refine (parse0_any ad c' w' hc').mono ?_
      rintro e w8 ⟨rfl, hb8⟩
      have hE : (∃ v, w8.heap[p]? = some (.cells #[v, .int .i64 65535] 86 (0, 0)) ∧ OR 55 2 encEn p v [⟨⟨#[97]⟩, some ad, 1, c'⟩] w8) ∧ Below p w w8 :=
        ⟨⟨_, (hb8.block p hz').trans HX.out.1, OR.later HX.out.2.1 hb8⟩, HX.out.2.2.trans (hb8.mono (by omega))⟩
      have HE := Lib.hid hE
      clear hE hb8 cb HX
      go_wp2_with fail
      rw [rounds_succ]
      go_wp2_with fail
      go_ret
      exact ⟨rfl, HE.out.1, HE.out.2⟩
end Go.Proofs.YthmpcdjhighhgaaGreatDoor
