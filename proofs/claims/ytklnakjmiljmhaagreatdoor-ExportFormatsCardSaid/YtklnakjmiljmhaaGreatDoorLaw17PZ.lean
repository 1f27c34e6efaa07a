/- The law ExportPrefix: the call returns true, for every tape and number. -/
import Derived.Test.YtklnakjmiljmhaaGreatDoorLaw17BZ
namespace Go.Proofs.YtklnakjmiljmhaaGreatDoor
set_option linter.unusedVariables false
set_option linter.unusedSimpArgs false
set_option maxRecDepth 100000
open Go.RowKit
theorem MC.take {A : Option Addr} {n c : Nat} {l : List Ms} {w : World} (h : MC (.slice A n c) l w) (k : Nat) (hk : k ≤ l.length) : MC (.slice A k c) (l.take k) w := by
  obtain ⟨A', c', hv, hc, h⟩ := h
  injection hv with h1 h2 h3
  subst h1 h3
  have hl : (l.take k).length = k := by rw [List.length_take]; omega
  refine ⟨A, c, by rw [hl], by omega, h.imp (fun e => by subst e; simp) ?_⟩
  rintro ⟨g, f, rfl, hg, hm⟩
  refine ⟨g, f, rfl, hg, fun i hi => ?_⟩
  rw [List.getElem_take]
  exact hm i (by omega)
theorem putM_len (m : Ms) : ∀ o : List Ms, (putM m o).length ≤ o.length + 1
  | [] => by simp [putM]; split <;> simp
  | x :: r => by
    have := putM_len m r
    rw [putM]
    repeat' split
    all_goals simp
    all_goals omega
theorem atF_len (t : Int) : ∀ (l o : List Ms), (atF t l o).length ≤ o.length + l.length
  | [], o => by simp [atF]
  | m :: r, o => by
    rw [atF]
    split
    · have h1 := atF_len t r (putM m o); have h2 := putM_len m o; simp; omega
    · have h1 := atF_len t r o; simp; omega
theorem at_len (l : List Ms) (t : Int) (h : l.length ≤ 1000000) : (atM l t).length ≤ 1000000 := by
  unfold atM
  split
  · have := atF_len t l []; simp at this; omega
  · simp
def factP (A : Option Addr) (n c k g f0 : Nat) (tm : Int) (l : List Ms) : Nat → Value → World → Prop
  | 0, x, _ => x = .slice A n c
  | 1, x, _ => x = .int .i64 (k : Int)
  | 2, x, _ => x = .slice A k c
  | 3, x, _ => x = .slice A n c
  | 4, x, _ => x = .int .i64 (k : Int)
  | 5, x, _ => x = .pointer (some ⟨g, f0 + k * 5, none⟩)
  | 6, x, _ => x = .pointer (some ⟨g, f0 + k * 5 + 3, none⟩)
  | 7, x, _ => x = .int .i64 tm
  | 8, x, _ => x = .int .i64 (tm - 1)
  | 9, x, w => MC x (atM (l.take k) (tm - 1)) w
  | 10, x, _ => x = .slice A n c
  | 11, x, _ => x = .slice A n c
  | 12, x, _ => x = .int .i64 (k : Int)
  | 13, x, _ => x = .pointer (some ⟨g, f0 + k * 5, none⟩)
  | 14, x, _ => x = .pointer (some ⟨g, f0 + k * 5 + 3, none⟩)
  | 15, x, _ => x = .int .i64 tm
  | 16, x, _ => x = .int .i64 (tm - 1)
  | 17, x, w => MC x (atM l (tm - 1)) w
  | 18, x, _ => x = .bool true
  | 19, x, _ => x = .bool true
  | 20, x, _ => x = .bool true
  | 21, x, _ => x = .bool true
  | 22, x, _ => x = .bool true
  | _, _, _ => True
theorem factP_later {A : Option Addr} {n c k g f0 : Nat} {tm : Int} {l : List Ms} {w w' : World} (hb : Below w.heap.size w w') : ∀ (j : Nat) (x : Value), factP A n c k g f0 tm l j x w → factP A n c k g f0 tm l j x w' := by
  intro j x h
  match j with
  | 0 | 1 | 2 | 3 | 4 | 5 | 6 | 7 | 8 | 10 | 11 | 12 | 13 | 14 | 15 | 16 | 18 | 19 | 20 | 21 | 22 => exact h
  | 9 => exact MC.later h hb (Nat.le_refl _)
  | 17 => exact MC.later h hb (Nat.le_refl _)
  | _ + 23 => exact trivial
set_option maxHeartbeats 4000000 in
theorem prefix17_law (A : Option Addr) (n c : Nat) (num : Int) (w : World) (ht : TapeArg A n w) (hv : VrOK w) :
    Calls Tryz.prog 5 #[.slice A n c, .int .i64 num] w fun e w' => e = .returned (.bool true) ∧ Below w.heap.size w w' := by
  have h0 := tape_new (c := c) ht
  have hb0 := (Below.refl w.heap.size w).alloc (Nat.le_refl _) (.cells #[.slice A n c, .int .i64 0] 26)
  generalize hw0 : w.alloc (.cells #[.slice A n c, .int .i64 0] 26) = w0 at h0 hb0
  have HW0 := Lib.hid hw0
  have HV := Lib.hid hv
  obtain ⟨p, hp⟩ : ∃ p, bits .and .i64 num 255 = p := ⟨_, rfl⟩
  obtain ⟨hp0, hp1⟩ := mask_bd num 255 (by decide) (by decide)
  rw [hp] at hp0 hp1
  obtain ⟨r, rfl⟩ := Int.eq_ofNat_of_zero_le hp0
  go_enter Tryz.func5, Tryz.ntmps5
  go_wp2_with fail
  clear hw0
  refine (kinds_any w.heap.size _ h0).mono ?_
  rintro e w1 ⟨vk, rfl, hk, ht1, hf1⟩
  go_wp2_with fail
  refine (messages_any w.heap.size vk _ hk ht1).mono ?_
  rintro e w2 ⟨v, l, B, rfl, hown, h00, hn, htx, ht2, hf2⟩
  have hF : Below w.heap.size w w2 := hb0.trans ((hf1.trans hf2).below (Nat.le_refl _) hb0.size)
  obtain ⟨hs, -⟩ := made_small h00 hn htx
  have HMC := Lib.hid (MC.of_own hown)
  obtain ⟨A1, c1, rfl, hc1, hcell⟩ := MC.of_own hown
  obtain ⟨k, hk1⟩ : ∃ k, k = r % (l.length + 1) := ⟨_, rfl⟩
  have hkl : k ≤ l.length := by have := Nat.mod_lt r (show 0 < l.length + 1 by omega); omega
  have hrem : ((r : Int)).tmod ((l.length : Int) + 1) = (k : Int) := by rw [hk1]; rfl
  have hwl : IntKind.i64.wrap ((l.length : Int) + 1) = (l.length : Int) + 1 := IntWalk.i64_in _ (by omega)
  have HCELL := Lib.hid hcell
  clear hk1 hcell
  have hsT : Small (l.take k) := ⟨by rw [List.length_take]; omega, fun m hm => hs.2 m (List.mem_of_mem_take hm)⟩
  have hMT := HMC.out.take k hkl
  have hVA := valid_any _ _ w2 hMT hsT
  rw [errM_take h00 k] at hVA
  have HVA := Lib.hid hVA
  have HT1 := Lib.hid (fun (w' : World) (h : Below w2.heap.size w2 w') => texts_any _ _ w' (hMT.later h (Nat.le_refl _)) hsT)
  have HT2 := Lib.hid (fun (w' : World) (h : Below w2.heap.size w2 w') => texts_any _ _ w' (HMC.out.later h (Nat.le_refl _)) hs)
  have HL := Lib.hid (show decide (((textsM l).length : Int) < ((textsM (l.take k)).length : Int)) = false from decide_eq_false (by
    unfold textsM; rw [if_pos h00, if_pos (errM_take h00 k)]; have := keepM_take l k; omega))
  have HA := Lib.hid (fun (w' : World) (hV : VrOK w') => awake_any w' hV)
  have hll : l.length ≤ 6 := hn
  have Q := Lib.hid (And.intro h00 (And.intro hs hsT))
  clear hown h00 hn htx ht2 hf2 hs hk ht1 hf1 h0 hb0 HW0 hv hMT hVA hsT
  go_wp2_with fail
  refine HVA.out.mono ?_
  rintro e w3 ⟨rfl, hb3⟩
  go_wp2_with fail
  refine (HT1.out _ hb3).mono ?_
  rintro e w4 ⟨v4, rfl, hv4, hb4⟩
  have hF4 := hb3.trans (hb4.mono hb3.size)
  obtain ⟨A4, c4, rfl, -, -⟩ := MC.of_own hv4
  clear hv4 hb4
  go_wp2_with fail
  refine (HT2.out _ hF4).mono ?_
  rintro e w5 ⟨v5, rfl, hv5, hb5⟩
  have hF5 := hF4.trans (hb5.mono hF4.size)
  obtain ⟨A5, c5, rfl, -, -⟩ := MC.of_own hv5
  have hHL := HL.out
  have hHLn : decide ((textsM l).length < (textsM (l.take k)).length) = false := decide_eq_false (by have := of_decide_eq_false hHL; omega)
  clear hv5 hb5 hF4 hb3
  by_cases hke : k = l.length
  · have hd : ((k : Int) == (l.length : Int)) = true := by rw [hke]; simp
    go_wp2_with fail
    refine (HA.out _ (HV.out.later (hF.trans (hF5.mono hF.size)))).mono ?_
    rintro e w6 ⟨rfl, hb6⟩
    go_wp2_with fail
    go_ret
    have hF6 := hF5.trans (hb6.mono hF5.size)
    exact ⟨rfl, hF.trans (hF6.mono hF.size)⟩
  · have hd : ((k : Int) == (l.length : Int)) = false := by simp; omega
    have hlt : k < l.length := by omega
    obtain ⟨g, f0, rfl, hg, hm⟩ := HCELL.out.resolve_left (by intro e; rw [e] at hlt; simp at hlt)
    obtain ⟨tm, htm⟩ : ∃ tm, tm = (l[k]).time := ⟨_, rfl⟩
    have hcm := (hm k hlt).2.2.2.1
    rw [← htm] at hcm
    have hpre := prefix_law Q.out.1 k hlt (tm - 1) (by omega)
    have hte := lateM_no ((errM_ok.1 Q.out.1).2.2.2.1 l[k] (List.getElem_mem hlt))
    rw [← htm] at hte
    clear htm
    have hAT1 := Lib.hid (fun (w' : World) (h : Below w2.heap.size w2 w') => at_any (.slice (some ⟨g, f0, none⟩) k c1) (l.take k) (tm - 1) w' ((HMC.out.take k hkl).later h (Nat.le_refl _)) Q.out.2.2)
    have hAT2 := Lib.hid (fun (w' : World) (h : Below w2.heap.size w2 w') => at_any (.slice (some ⟨g, f0, none⟩) l.length c1) l (tm - 1) w' (HMC.out.later h (Nat.le_refl _)) Q.out.2.1)
    have hSM := Lib.hid (fun (w' : World) (va vb : Value) (ha : MC va (atM (l.take k) (tm - 1)) w') (hb : MC vb (atM l (tm - 1)) w') (hl : (atM l (tm - 1)).length ≤ 1000000) => same_msgs va vb (atM l (tm - 1)) w' (hpre ▸ ha) hb hl)
    have hAL : (atM l (tm - 1)).length ≤ 1000000 := at_len _ _ (by omega)
    have hwr : IntKind.i64.wrap (tm - 1) = tm - 1 := IntWalk.i64_in _ (by omega)
    go_upto_region 8 with fail
    obtain ⟨W5, hW5⟩ : ∃ W5 : World, W5 = w5 := ⟨_, rfl⟩
    rw [← hW5] at hF5 ⊢
    clear hW5
    refine wp_region_facts (fun _ => factP (some ⟨g, f0, none⟩) l.length c1 k g f0 tm l) (fun _ w' => Below w2.heap.size w2 w') (by kernel_rfl) (by kernel_rfl) (by kernel_rfl) hF5.drew ?_ ?_
    · refine FSteps.cons ?_ (FSteps.cons ?_ (FSteps.cons ?_ (FSteps.cons ?_ (FSteps.cons ?_ (FSteps.cons ?_ (FSteps.cons ?_ (FSteps.cons ?_ (FSteps.cons ?_ (FSteps.cons ?_ (FSteps.cons ?_ (FSteps.cons ?_ (FSteps.cons ?_ (FSteps.cons ?_ (FSteps.cons ?_ (FSteps.cons ?_ (FSteps.cons ?_ (FSteps.cons ?_ (FSteps.cons ?_ (FSteps.cons ?_ (FSteps.cons ?_ (FSteps.cons ?_ (FSteps.cons ?_ FSteps.nil))))))))))))))))))))))
      all_goals (intro f v w0 h0 hpre' hE hF' hcl hU hS K hK; simp only [putAll, Act.put, List.setIfInBounds_toArray, List.set_cons_zero, List.set_cons_succ, Nat.zero_add, Nat.reduceAdd] at hK ⊢)
      · go_wp2_with fail
        exact hK.out _ _ hS (fun j _ _ h => factP_later (Below.refl _ _) j _ h) rfl
      · go_wp2_with fail
        exact hK.out _ _ hS (fun j _ _ h => factP_later (Below.refl _ _) j _ h) rfl
      · have e0 : v 0 = _ := hE.1 rfl
        have e1 : v 1 = _ := hE.2.1 rfl
        rw [e0, e1] at hK ⊢
        go_wp2_with fail
        exact hK.out _ _ hS (fun j _ _ h => factP_later (Below.refl _ _) j _ h) rfl
      · go_wp2_with fail
        exact hK.out _ _ hS (fun j _ _ h => factP_later (Below.refl _ _) j _ h) rfl
      · go_wp2_with fail
        exact hK.out _ _ hS (fun j _ _ h => factP_later (Below.refl _ _) j _ h) rfl
      · have e3 : v 3 = _ := hE.1 rfl
        have e4 : v 4 = _ := hE.2.1 rfl
        rw [e3, e4] at hK ⊢
        go_wp2_with fail
        exact hK.out _ _ hS (fun j _ _ h => factP_later (Below.refl _ _) j _ h) rfl
      · have e5 : v 5 = _ := hE.1 rfl
        rw [e5] at hK ⊢
        go_wp2_with fail
        exact hK.out _ _ hS (fun j _ _ h => factP_later (Below.refl _ _) j _ h) rfl
      · have e6 : v 6 = _ := hE.1 rfl
        rw [e6] at hK ⊢
        have hcl : w0.cell? ⟨g, f0 + k * 5 + 3, none⟩ = some (.int .i64 tm) := (hS.cell (p := ⟨g, f0 + k * 5 + 3, none⟩) hg).trans hcm
        go_wp2_with fail
        exact hK.out _ _ hS (fun j _ _ h => factP_later (Below.refl _ _) j _ h) rfl
      · have e7 : v 7 = _ := hE.1 rfl
        rw [e7] at hK ⊢
        go_wp2_with fail
        exact hK.out _ _ hS (fun j _ _ h => factP_later (Below.refl _ _) j _ h) rfl
      · have e2 : v 2 = _ := hE.1 rfl
        have e8 : v 8 = _ := hE.2.1 rfl
        rw [e2, e8] at hK ⊢
        go_wp2_with fail
        refine (hAT1.out _ hS).mono ?_
        rintro e w1 ⟨u1, rfl, hu1, hb1⟩
        go_wp2_with fail
        exact hK.out _ _ (hS.trans (hb1.mono hS.size)) (fun j _ _ h => factP_later hb1 j _ h) hu1
      · go_wp2_with fail
        exact hK.out _ _ hS (fun j _ _ h => factP_later (Below.refl _ _) j _ h) rfl
      · go_wp2_with fail
        exact hK.out _ _ hS (fun j _ _ h => factP_later (Below.refl _ _) j _ h) rfl
      · go_wp2_with fail
        exact hK.out _ _ hS (fun j _ _ h => factP_later (Below.refl _ _) j _ h) rfl
      · have e11 : v 11 = _ := hE.1 rfl
        have e12 : v 12 = _ := hE.2.1 rfl
        rw [e11, e12] at hK ⊢
        go_wp2_with fail
        exact hK.out _ _ hS (fun j _ _ h => factP_later (Below.refl _ _) j _ h) rfl
      · have e13 : v 13 = _ := hE.1 rfl
        rw [e13] at hK ⊢
        go_wp2_with fail
        exact hK.out _ _ hS (fun j _ _ h => factP_later (Below.refl _ _) j _ h) rfl
      · have e14 : v 14 = _ := hE.1 rfl
        rw [e14] at hK ⊢
        have hcl : w0.cell? ⟨g, f0 + k * 5 + 3, none⟩ = some (.int .i64 tm) := (hS.cell (p := ⟨g, f0 + k * 5 + 3, none⟩) hg).trans hcm
        go_wp2_with fail
        exact hK.out _ _ hS (fun j _ _ h => factP_later (Below.refl _ _) j _ h) rfl
      · have e15 : v 15 = _ := hE.1 rfl
        rw [e15] at hK ⊢
        go_wp2_with fail
        exact hK.out _ _ hS (fun j _ _ h => factP_later (Below.refl _ _) j _ h) rfl
      · have e10 : v 10 = _ := hE.1 rfl
        have e16 : v 16 = _ := hE.2.1 rfl
        rw [e10, e16] at hK ⊢
        go_wp2_with fail
        refine (hAT2.out _ hS).mono ?_
        rintro e w1 ⟨u1, rfl, hu1, hb1⟩
        go_wp2_with fail
        exact hK.out _ _ (hS.trans (hb1.mono hS.size)) (fun j _ _ h => factP_later hb1 j _ h) hu1
      · have e9 : MC (v 9) _ w0 := hE.1 rfl
        have e17 : MC (v 17) _ w0 := hE.2.1 rfl
        go_wp2_with fail
        refine (hSM.out _ _ _ e9 e17 hAL).mono ?_
        rintro e w1 ⟨rfl, hb1⟩
        go_wp2_with fail
        exact hK.out _ _ (hS.trans (hb1.mono hS.size)) (fun j _ _ h => factP_later hb1 j _ h) rfl
      · have e18 : v 18 = _ := hE.1 rfl
        rw [e18] at hK ⊢
        go_wp2_with fail
        exact hK.out _ _ hS (fun j _ _ h => factP_later (Below.refl _ _) j _ h) rfl
      · have e19 : v 19 = _ := hE.1 rfl
        rw [e19] at hK ⊢
        go_wp2_with fail
        refine (HA.out _ (HV.out.later (hF.trans (hS.mono hF.size)))).mono ?_
        rintro e w1 ⟨rfl, hb1⟩
        go_wp2_with fail
        exact hK.out _ _ (hS.trans (hb1.mono hS.size)) (fun j _ _ h => factP_later hb1 j _ h) rfl
      · have e19 : v 19 = _ := hE.1 rfl
        have e20 : v 20 = _ := hE.2.1 rfl
        rw [e19, e20] at hK ⊢
        go_wp2_with fail
        exact hK.out _ _ hS (fun j _ _ h => factP_later (Below.refl _ _) j _ h) rfl
      · have e21 : v 21 = _ := hE.1 rfl
        rw [e21] at hK ⊢
        go_wp2_with fail
        exact hK.out _ _ hS (fun j _ _ h => factP_later (Below.refl _ _) j _ h) rfl
    · intro f v w' hall hF' hS
      have e22 : v 22 = _ := hF' 22 (by decide)
      simp only [putAll, Act.put, List.setIfInBounds_toArray, List.set_cons_zero, List.set_cons_succ, Nat.zero_add, Nat.reduceAdd]
      rw [e22]
      clear hF' hall
      apply_assumption
      go_wp2_with fail
      go_ret
      exact ⟨rfl, hF.trans (hS.mono hF.size)⟩
end Go.Proofs.YtklnakjmiljmhaaGreatDoor
