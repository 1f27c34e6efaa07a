/- Walks: machine.describe. Conditions: the variables read as laid. · Walks: machine.classes. Conditions: the variables read as laid. · Walks: machine.least. Conditions: the variables read as laid. · Walk: machine.Least at a valid machine. · Walks: the tape's Between. · law06.own: what the steps at a round's end leave (two rows grow, the tape moves on, the box is written). · Walk: law06.own. Printed by gen_oww.py. · Walks: the reader of patterns at one text: an item. · Walks: machine.Ends, machine.Accepts. -/
import Derived.Test.YtjhmipidmpmlmaaGreatDoorY15
import Derived.Test.YtjhmipidmpmlmaaGreatDoorY21
import Derived.Test.YtjhmipidmpmlmaaGreatDoorY04
import Derived.Test.YtjhmipidmpmlmaaGreatDoorY19
import Derived.Test.YtjhmipidmpmlmaaGreatDoorY03
import Derived.Test.YtjhmipidmpmlmaaGreatDoorY10
namespace Go.Proofs.YtjhmipidmpmlmaaGreatDoor
set_option linter.unusedVariables false
set_option linter.unusedSimpArgs false
set_option maxRecDepth 100000
open Go.RowKit
def factDs (kb lo hi to : Nat) (D0 D1 D2 S5 S6 S12 S13 S17 : ByteArray) : Nat → Nat → Value → World → Prop
  | c, 0, x, w => x = .pointer (some ⟨kb, 0, none⟩)
  | c, 1, x, w => x = .pointer (some ⟨kb, 0, none⟩)
  | c, 2, x, w => x = .int .u8 (lo : Int)
  | c, 3, x, w => x = .int .i64 (lo : Int)
  | c, 4, x, w => x = .string D0
  | c, 5, x, w => x = .string S5
  | c, 6, x, w => x = .string S6
  | c, 7, x, w => x = .pointer (some ⟨kb, 0, none⟩)
  | c, 8, x, w => x = .pointer (some ⟨kb, 1, none⟩)
  | c, 9, x, w => x = .int .u8 (hi : Int)
  | c, 10, x, w => x = .int .i64 (hi : Int)
  | c, 11, x, w => x = .string D1
  | c, 12, x, w => x = .string S12
  | c, 13, x, w => x = .string S13
  | c, 14, x, w => x = .pointer (some ⟨kb, 2, none⟩)
  | c, 15, x, w => x = .int .i64 (to : Int)
  | c, 16, x, w => x = .string D2
  | c, 17, x, w => x = .string S17
  | _, _, _, _ => True
theorem descE_len : ∀ l : List Ed, (∀ e ∈ l, e.lo < 256 ∧ e.hi < 256 ∧ e.to < 1000000) → (descE l).length ≤ 20 * l.length
  | [], _ => Nat.le_refl _
  | e :: r, h => by
    have h1 := descE_len r fun x hx => h x (by simp [hx])
    have h2 := h e (by simp)
    have d0 := dec_len e.lo 2 (by omega)
    have d1 := dec_len e.hi 2 (by omega)
    have d2 := dec_len e.to 6 (by omega)
    simp only [descE, List.length_cons, List.length_append]
    omega
theorem bl_add (a b : ByteArray) : bl (a ++ b) = bl a ++ bl b := by simp [bl]
set_option maxHeartbeats 8000000 in
theorem describe_any (b : Bool) (ev : Value) (l : List Ed) (w : World) (he : EdIn w ev l) (hby : ∀ e ∈ l, e.lo < 256 ∧ e.hi < 256 ∧ e.to < 1000000) (hl : l.length ≤ 100000) (hvr : VrOK w) :
    Calls Tryz.prog 95 #[.bool b, ev] w fun e w' => e = .returned (.string (bs (descT b l))) ∧ Below w.heap.size w w' := by
  obtain ⟨Ae, ce, rfl, hce1, hce2⟩ := he.form
  obtain ⟨nl, hnl⟩ : ∃ n, l.length = n := ⟨_, rfl⟩
  rw [hnl] at he hce1 hl ⊢
  have HE := Lib.hid he
  have HY := Lib.hid hby
  have HN := Lib.hid hnl
  have HVR := Lib.hid hvr
  have HFB := Lib.hid (fun w => Tryz.strconv_FormatBool b w)
  clear he hby hnl hvr
  go_enter Tryz.func95, Tryz.ntmps95
  go_wp2_with (go_at_call 124; refine (HFB.out _).mono ?_; rintro e w1 ⟨rfl, rfl⟩)
  have hi0 : IsB w.heap.size [] (w.alloc (.cells #[.pointer none, .slice none 0 0] 98)) := ⟨Lib.fresh_isBuilder _ _ w, by simp⟩
  have hsb : ((⟨(Lib.formatBool b).toArray⟩ : ByteArray)).size ≤ 1000000 := by cases b <;> decide
  refine (builder_str _ _ _ _ hi0 (by simp) hsb).mono ?_
  rintro e w1 ⟨rfl, hi1, hb1⟩
  have hfb : bl ⟨(Lib.formatBool b).toArray⟩ = boolT b := by cases b <;> rfl
  rw [hfb, List.nil_append] at hi1
  have HI1 := Lib.hid hi1
  have HB1 := Lib.hid (((Below.refl _ w).alloc (Nat.le_refl _) (.cells #[.pointer none, .slice none 0 0] 98)).trans hb1)
  clear hi0 hsb hi1 hb1 hfb
  go_wp2_with fail
  go_loopw [13] (fun iv wr => ∃ k : Nat, k ≤ nl ∧ iv = .int .i64 (k : Int) ∧ Hid (IsB w.heap.size (boolT b ++ descE (l.take k)) wr) ∧ Hid (Below w.heap.size w wr)) (fun iv _ => nl - (intOf iv).toNat)
  case atStart => exact ⟨0, Nat.zero_le _, rfl, by rw [List.take_zero]; simp only [descE, List.append_nil]; exact HI1, HB1⟩
  case round =>
    obtain ⟨k, hk, rfl, HI, HBW⟩ := hrel
    by_cases hlt : k < nl
    · have hd : decide ((k : Int) < (nl : Int)) = true := decide_eq_true (by omega)
      have hkl : k < l.length := by rw [HN.out]; exact hlt
      obtain ⟨g, f, rfl, -, hg, c0, c1, c2⟩ := HE.out.at_ hkl
      obtain ⟨e, hle⟩ : ∃ e, l[k] = e := ⟨_, rfl⟩
      rw [hle] at c0 c1 c2
      have hem : e ∈ l := by rw [← hle]; exact List.getElem_mem hkl
      have hblk := HBW.out.block g hg
      have d0 := (World.cell?_of_block (a := ⟨g, f + k * 3, none⟩) hblk).trans c0
      have d1 := (World.cell?_of_block (a := ⟨g, f + k * 3 + 1, none⟩) hblk).trans c1
      have d2 := (World.cell?_of_block (a := ⟨g, f + k * 3 + 2, none⟩) hblk).trans c2
      have hwr := HBW.out.size
      have hglr : g < wr.heap.size := by omega
      obtain ⟨hb0, hb1, hb2⟩ := HY.out e hem
      have hst : descE (l.take (k + 1)) = descE (l.take k) ++ (32 :: (Lib.decDigits e.lo ++ 45 :: (Lib.decDigits e.hi ++ 58 :: Lib.decDigits e.to))) := by rw [List.take_succ_eq_append_getElem hkl, hle, descE_snoc]
      obtain ⟨lo, hi, to⟩ := e
      simp only at d0 d1 d2 hb0 hb1 hb2 hst
      have hdl0 := dec_len lo 2 (by omega)
      have hdl1 := dec_len hi 2 (by omega)
      have hdl2 := dec_len to 6 (by omega)
      obtain ⟨D0, hD0⟩ : ∃ D, bs (Lib.decDigits lo) = D := ⟨_, rfl⟩
      obtain ⟨D1, hD1⟩ : ∃ D, bs (Lib.decDigits hi) = D := ⟨_, rfl⟩
      obtain ⟨D2, hD2⟩ : ∃ D, bs (Lib.decDigits to) = D := ⟨_, rfl⟩
      have z0 : D0.size ≤ 7 := by rw [← hD0, size_bs]; omega
      have z1 : D1.size ≤ 7 := by rw [← hD1, size_bs]; omega
      have z2 : D2.size ≤ 7 := by rw [← hD2, size_bs]; omega
      obtain ⟨S5, hS5⟩ : ∃ S, (⟨#[32]⟩ : ByteArray) ++ D0 = S := ⟨_, rfl⟩
      obtain ⟨S6, hS6⟩ : ∃ S, S5 ++ (⟨#[45]⟩ : ByteArray) = S := ⟨_, rfl⟩
      obtain ⟨S12, hS12⟩ : ∃ S, S6 ++ D1 = S := ⟨_, rfl⟩
      obtain ⟨S13, hS13⟩ : ∃ S, S12 ++ (⟨#[58]⟩ : ByteArray) = S := ⟨_, rfl⟩
      obtain ⟨S17, hS17⟩ : ∃ S, S13 ++ D2 = S := ⟨_, rfl⟩
      have q32 : ByteArray.size ⟨#[32]⟩ = 1 := rfl
      have q45 : ByteArray.size ⟨#[45]⟩ = 1 := rfl
      have q58 : ByteArray.size ⟨#[58]⟩ = 1 := rfl
      have z5 : S5.size ≤ 8 := by rw [← hS5, ByteArray.size_append]; omega
      have z6 : S6.size ≤ 9 := by rw [← hS6, ByteArray.size_append]; omega
      have z12 : S12.size ≤ 16 := by rw [← hS12, ByteArray.size_append]; omega
      have z13 : S13.size ≤ 17 := by rw [← hS13, ByteArray.size_append]; omega
      have z17 : S17.size ≤ 24 := by rw [← hS17, ByteArray.size_append]; omega
      have n5 : ¬ (9223372036854775807 : Nat) < ByteArray.size ⟨#[32]⟩ + D0.size := by omega
      have n6 : ¬ (9223372036854775807 : Nat) < S5.size + ByteArray.size ⟨#[45]⟩ := by omega
      have n12 : ¬ (9223372036854775807 : Nat) < S6.size + D1.size := by omega
      have n13 : ¬ (9223372036854775807 : Nat) < S12.size + ByteArray.size ⟨#[58]⟩ := by omega
      have n17 : ¬ (9223372036854775807 : Nat) < S13.size + D2.size := by omega
      have hbl : bl S17 = 32 :: (Lib.decDigits lo ++ 45 :: (Lib.decDigits hi ++ 58 :: Lib.decDigits to)) := by
        rw [← hS17, bl_add, ← hS13, bl_add, ← hS12, bl_add, ← hS6, bl_add, ← hS5, bl_add, ← hD0, ← hD1, ← hD2, bl_bs, bl_bs, bl_bs]
        show (([32] ++ _ ++ [45]) ++ _ ++ [58]) ++ _ = _
        simp
      have HIT0 := Lib.hid (fun W (h : VrOK W) => hD0 ▸ itoa_any lo (by omega) W h)
      have HIT1 := Lib.hid (fun W (h : VrOK W) => hD1 ▸ itoa_any hi (by omega) W h)
      have HIT2 := Lib.hid (fun W (h : VrOK W) => hD2 ▸ itoa_any to (by omega) W h)
      have HS5 := Lib.hid hS5
      have HS6 := Lib.hid hS6
      have HS12 := Lib.hid hS12
      have HS13 := Lib.hid hS13
      have HS17 := Lib.hid hS17
      have HST := Lib.hid (And.intro hst hbl)
      have hln : (boolT b ++ descE (l.take k)).length ≤ 1000000000 := by
        have h1 := descE_len (l.take k) fun x hx => HY.out x (List.mem_of_mem_take hx)
        have h2 := List.length_take_le k l
        have h3 : (boolT b).length ≤ 5 := by cases b <;> decide
        rw [List.length_append]; omega
      have HLN := Lib.hid hln
      have hlow := HVR.out.low
      clear hle hem hblk c0 c1 c2 hst hD0 hD1 hD2 hS5 hS6 hS12 hS13 hS17 hbl hdl0 hdl1 hdl2 hkl hln q32 q45 q58
      go_wp2_with fail
      refine wp_named fun W hW => ?_
      have hbW2 : Below wr.heap.size wr W := by rw [hW]; exact (Below.refl _ _).alloc (Nat.le_refl _) _
      have hzW : W.heap.size = wr.heap.size + 1 := by rw [hW]; simp
      have hrW : W.heap[wr.heap.size]? = some (.cells #[.int .u8 (lo : Int), .int .u8 (hi : Int), .int .i64 (to : Int)] 58 (0, 0)) := by rw [hW]; exact heap_alloc_new wr _
      obtain ⟨b0, b1, b2⟩ := cells3 hrW
      have hlW : wr.heap.size < W.heap.size := by omega
      have hvW : VrOK W := HVR.out.below (HBW.out.trans (hbW2.mono hwr)) hlow
      have HIW := Lib.hid (HI.out.later hbW2)
      have HBW3 := Lib.hid (HBW.out.trans (hbW2.mono hwr))
      have HVW := Lib.hid hvW
      have hS0 : Below W.heap.size W W.drew := (Below.refl _ _).drew
      clear hW hrW hbW2 d0 d1 d2 hvW
      refine wp_region_chain 18 [] (factDs wr.heap.size lo hi to D0 D1 D2 S5 S6 S12 S13 S17) (fun _ w' => Below W.heap.size W w') (by kernel_rfl) (by kernel_rfl) (by kernel_rfl) (by kernel_rfl) (by kernel_rfl) (by kernel_rfl) (by decide) hS0 ?_ ?_
      · simp only [List.take_succ_cons, List.take_zero]
        refine HSteps.pure (by decide) ?_ (HSteps.pure (by decide) ?_ (HSteps.pure (by decide) ?_ (HSteps.pure (by decide) ?_ (HSteps.free (by decide) ?_ (HSteps.pure (by decide) ?_ (HSteps.pure (by decide) ?_ (HSteps.pure (by decide) ?_ (HSteps.pure (by decide) ?_ (HSteps.pure (by decide) ?_ (HSteps.pure (by decide) ?_ (HSteps.free (by decide) ?_ (HSteps.pure (by decide) ?_ (HSteps.pure (by decide) ?_ (HSteps.pure (by decide) ?_ (HSteps.pure (by decide) ?_ (HSteps.free (by decide) ?_ (HSteps.pure (by decide) ?_ (HSteps.nil))))))))))))))))))
        · intro v wz c hlo hS hE K hK
          simp only [putAll, Act.put, List.setIfInBounds_toArray, List.set_cons_zero, List.set_cons_succ, Nat.zero_add, Nat.reduceAdd, List.take_succ_cons, List.take_zero] at hK ⊢
          have HX := Lib.hid hS
          clear hS hE hlo
          go_wp2_with fail
          exact hK.out _ rfl
        · intro v wz c hlo hS hE K hK
          simp only [putAll, Act.put, List.setIfInBounds_toArray, List.set_cons_zero, List.set_cons_succ, Nat.zero_add, Nat.reduceAdd, List.take_succ_cons, List.take_zero] at hK ⊢
          have e0 : v 0 = _ := hE.1 rfl
          rw [e0] at hK ⊢
          have HX := Lib.hid hS
          clear hS hE hlo
          go_wp2_with fail
          exact hK.out _ rfl
        · intro v wz c hlo hS hE K hK
          simp only [putAll, Act.put, List.setIfInBounds_toArray, List.set_cons_zero, List.set_cons_succ, Nat.zero_add, Nat.reduceAdd, List.take_succ_cons, List.take_zero] at hK ⊢
          have e1 : v 1 = _ := hE.1 rfl
          rw [e1] at hK ⊢
          have cx0 := (hS.cell (p := ⟨wr.heap.size, 0, none⟩) hlW).trans b0
          have lwz : wr.heap.size < wz.heap.size := by have := hS.size; omega
          have HX := Lib.hid hS
          clear hS hE hlo
          go_wp2_with fail
          exact hK.out _ rfl
        · intro v wz c hlo hS hE K hK
          simp only [putAll, Act.put, List.setIfInBounds_toArray, List.set_cons_zero, List.set_cons_succ, Nat.zero_add, Nat.reduceAdd, List.take_succ_cons, List.take_zero] at hK ⊢
          have e2 : v 2 = _ := hE.1 rfl
          rw [e2] at hK ⊢
          have HX := Lib.hid hS
          clear hS hE hlo
          go_wp2_with fail
          exact hK.out _ rfl
        · intro v wz c hlo hS hE K hK
          simp only [putAll, Act.put, List.setIfInBounds_toArray, List.set_cons_zero, List.set_cons_succ, Nat.zero_add, Nat.reduceAdd, List.take_succ_cons, List.take_zero] at hK ⊢
          have e3 : v 3 = _ := hE.1 rfl
          rw [e3] at hK ⊢
          have hcall := HIT0.out wz (HVW.out.later hS)
          have HC := Lib.hid hcall
          have HX := Lib.hid hS
          clear hS hE hlo hcall
          go_wp2_with fail
          refine HC.out.mono ?_
          rintro e wy ⟨rfl, hb⟩
          have HBY := Lib.hid (HX.out.trans (hb.mono HX.out.size))
          clear hb
          go_wp2_with fail
          refine hK.out _ _ (fun j z hj h => ?_) HBY.out rfl
          match j with
          | 0 | 1 | 2 | 3 | 5 | 6 | 7 | 8 | 9 | 10 | 11 | 12 | 13 | 14 | 15 | 16 | 17 => exact h
          | 4 => exact absurd rfl hj
          | _ + 18 => exact trivial
        · intro v wz c hlo hS hE K hK
          simp only [putAll, Act.put, List.setIfInBounds_toArray, List.set_cons_zero, List.set_cons_succ, Nat.zero_add, Nat.reduceAdd, List.take_succ_cons, List.take_zero] at hK ⊢
          have E4 := hE.1 rfl
          have e4 : v 4 = _ := E4
          rw [e4] at hK ⊢
          have HX := Lib.hid hS
          clear hS hE hlo
          go_wp2_with fail
          exact hK.out _ (by rw [HS5.out]; rfl)
        · intro v wz c hlo hS hE K hK
          simp only [putAll, Act.put, List.setIfInBounds_toArray, List.set_cons_zero, List.set_cons_succ, Nat.zero_add, Nat.reduceAdd, List.take_succ_cons, List.take_zero] at hK ⊢
          have E5 := hE.1 rfl
          have e5 : v 5 = _ := E5
          rw [e5] at hK ⊢
          have HX := Lib.hid hS
          clear hS hE hlo
          go_wp2_with fail
          exact hK.out _ (by rw [HS6.out]; rfl)
        · intro v wz c hlo hS hE K hK
          simp only [putAll, Act.put, List.setIfInBounds_toArray, List.set_cons_zero, List.set_cons_succ, Nat.zero_add, Nat.reduceAdd, List.take_succ_cons, List.take_zero] at hK ⊢
          have HX := Lib.hid hS
          clear hS hE hlo
          go_wp2_with fail
          exact hK.out _ rfl
        · intro v wz c hlo hS hE K hK
          simp only [putAll, Act.put, List.setIfInBounds_toArray, List.set_cons_zero, List.set_cons_succ, Nat.zero_add, Nat.reduceAdd, List.take_succ_cons, List.take_zero] at hK ⊢
          have e7 : v 7 = _ := hE.1 rfl
          rw [e7] at hK ⊢
          have HX := Lib.hid hS
          clear hS hE hlo
          go_wp2_with fail
          exact hK.out _ rfl
        · intro v wz c hlo hS hE K hK
          simp only [putAll, Act.put, List.setIfInBounds_toArray, List.set_cons_zero, List.set_cons_succ, Nat.zero_add, Nat.reduceAdd, List.take_succ_cons, List.take_zero] at hK ⊢
          have e8 : v 8 = _ := hE.1 rfl
          rw [e8] at hK ⊢
          have cx1 := (hS.cell (p := ⟨wr.heap.size, 1, none⟩) hlW).trans b1
          have lwz : wr.heap.size < wz.heap.size := by have := hS.size; omega
          have HX := Lib.hid hS
          clear hS hE hlo
          go_wp2_with fail
          exact hK.out _ rfl
        · intro v wz c hlo hS hE K hK
          simp only [putAll, Act.put, List.setIfInBounds_toArray, List.set_cons_zero, List.set_cons_succ, Nat.zero_add, Nat.reduceAdd, List.take_succ_cons, List.take_zero] at hK ⊢
          have e9 : v 9 = _ := hE.1 rfl
          rw [e9] at hK ⊢
          have HX := Lib.hid hS
          clear hS hE hlo
          go_wp2_with fail
          exact hK.out _ rfl
        · intro v wz c hlo hS hE K hK
          simp only [putAll, Act.put, List.setIfInBounds_toArray, List.set_cons_zero, List.set_cons_succ, Nat.zero_add, Nat.reduceAdd, List.take_succ_cons, List.take_zero] at hK ⊢
          have e10 : v 10 = _ := hE.1 rfl
          rw [e10] at hK ⊢
          have hcall := HIT1.out wz (HVW.out.later hS)
          have HC := Lib.hid hcall
          have HX := Lib.hid hS
          clear hS hE hlo hcall
          go_wp2_with fail
          refine HC.out.mono ?_
          rintro e wy ⟨rfl, hb⟩
          have HBY := Lib.hid (HX.out.trans (hb.mono HX.out.size))
          clear hb
          go_wp2_with fail
          refine hK.out _ _ (fun j z hj h => ?_) HBY.out rfl
          match j with
          | 0 | 1 | 2 | 3 | 4 | 5 | 6 | 7 | 8 | 9 | 10 | 12 | 13 | 14 | 15 | 16 | 17 => exact h
          | 11 => exact absurd rfl hj
          | _ + 18 => exact trivial
        · intro v wz c hlo hS hE K hK
          simp only [putAll, Act.put, List.setIfInBounds_toArray, List.set_cons_zero, List.set_cons_succ, Nat.zero_add, Nat.reduceAdd, List.take_succ_cons, List.take_zero] at hK ⊢
          have E6 := hE.1 rfl
          have E11 := hE.2.1 rfl
          have e6 : v 6 = _ := E6
          have e11 : v 11 = _ := E11
          rw [e6, e11] at hK ⊢
          have HX := Lib.hid hS
          clear hS hE hlo
          go_wp2_with fail
          exact hK.out _ (by rw [HS12.out]; rfl)
        · intro v wz c hlo hS hE K hK
          simp only [putAll, Act.put, List.setIfInBounds_toArray, List.set_cons_zero, List.set_cons_succ, Nat.zero_add, Nat.reduceAdd, List.take_succ_cons, List.take_zero] at hK ⊢
          have E12 := hE.1 rfl
          have e12 : v 12 = _ := E12
          rw [e12] at hK ⊢
          have HX := Lib.hid hS
          clear hS hE hlo
          go_wp2_with fail
          exact hK.out _ (by rw [HS13.out]; rfl)
        · intro v wz c hlo hS hE K hK
          simp only [putAll, Act.put, List.setIfInBounds_toArray, List.set_cons_zero, List.set_cons_succ, Nat.zero_add, Nat.reduceAdd, List.take_succ_cons, List.take_zero] at hK ⊢
          have HX := Lib.hid hS
          clear hS hE hlo
          go_wp2_with fail
          exact hK.out _ rfl
        · intro v wz c hlo hS hE K hK
          simp only [putAll, Act.put, List.setIfInBounds_toArray, List.set_cons_zero, List.set_cons_succ, Nat.zero_add, Nat.reduceAdd, List.take_succ_cons, List.take_zero] at hK ⊢
          have e14 : v 14 = _ := hE.1 rfl
          rw [e14] at hK ⊢
          have cx2 := (hS.cell (p := ⟨wr.heap.size, 2, none⟩) hlW).trans b2
          have lwz : wr.heap.size < wz.heap.size := by have := hS.size; omega
          have HX := Lib.hid hS
          clear hS hE hlo
          go_wp2_with fail
          exact hK.out _ rfl
        · intro v wz c hlo hS hE K hK
          simp only [putAll, Act.put, List.setIfInBounds_toArray, List.set_cons_zero, List.set_cons_succ, Nat.zero_add, Nat.reduceAdd, List.take_succ_cons, List.take_zero] at hK ⊢
          have e15 : v 15 = _ := hE.1 rfl
          rw [e15] at hK ⊢
          have hcall := HIT2.out wz (HVW.out.later hS)
          have HC := Lib.hid hcall
          have HX := Lib.hid hS
          clear hS hE hlo hcall
          go_wp2_with fail
          refine HC.out.mono ?_
          rintro e wy ⟨rfl, hb⟩
          have HBY := Lib.hid (HX.out.trans (hb.mono HX.out.size))
          clear hb
          go_wp2_with fail
          refine hK.out _ _ (fun j z hj h => ?_) HBY.out rfl
          match j with
          | 0 | 1 | 2 | 3 | 4 | 5 | 6 | 7 | 8 | 9 | 10 | 11 | 12 | 13 | 14 | 15 | 17 => exact h
          | 16 => exact absurd rfl hj
          | _ + 18 => exact trivial
        · intro v wz c hlo hS hE K hK
          simp only [putAll, Act.put, List.setIfInBounds_toArray, List.set_cons_zero, List.set_cons_succ, Nat.zero_add, Nat.reduceAdd, List.take_succ_cons, List.take_zero] at hK ⊢
          have E13 := hE.1 rfl
          have E16 := hE.2.1 rfl
          have e13 : v 13 = _ := E13
          have e16 : v 16 = _ := E16
          rw [e13, e16] at hK ⊢
          have HX := Lib.hid hS
          clear hS hE hlo
          go_wp2_with fail
          exact hK.out _ (by rw [HS17.out]; rfl)
      · intro v wz hS hF
        have e0 : v 0 = _ := hF 0 (by decide)
        have e1 : v 1 = _ := hF 1 (by decide)
        have e2 : v 2 = _ := hF 2 (by decide)
        have e3 : v 3 = _ := hF 3 (by decide)
        have e7 : v 7 = _ := hF 7 (by decide)
        have e8 : v 8 = _ := hF 8 (by decide)
        have e9 : v 9 = _ := hF 9 (by decide)
        have e10 : v 10 = _ := hF 10 (by decide)
        have e14 : v 14 = _ := hF 14 (by decide)
        have e15 : v 15 = _ := hF 15 (by decide)
        have E4 := hF 4 (by decide)
        have E5 := hF 5 (by decide)
        have E6 := hF 6 (by decide)
        have E11 := hF 11 (by decide)
        have E12 := hF 12 (by decide)
        have E13 := hF 13 (by decide)
        have E16 := hF 16 (by decide)
        have E17 := hF 17 (by decide)
        simp only [putAll, Act.put, List.setIfInBounds_toArray, List.set_cons_zero, List.set_cons_succ, Nat.zero_add, Nat.reduceAdd, List.take_succ_cons, List.take_zero, List.drop_succ_cons, List.drop_zero, e0, e1, e2, e3, e7, e8, e9, e10, e14, e15]
        clear hF e0 e1 e2 e3 e7 e8 e9 e10 e14 e15
        have e17 : v 17 = _ := E17
        rw [e17]
        have hbz : Below W.heap.size W wz := hS
        have HZ := Lib.hid hbz
        clear hS hbz E4 E5 E6 E11 E12 E13 E16 E17 e17
        go_wp2_with fail
        refine (builder_str _ _ _ _ (HIW.out.later HZ.out) HLN.out (by omega)).mono ?_
        rintro e w9 ⟨rfl, hi9, hb9⟩
        have hi9' : IsB w.heap.size (boolT b ++ descE (l.take (k + 1))) w9 := by rw [HST.out.2, List.append_assoc, ← HST.out.1] at hi9; exact hi9
        have HI9 := Lib.hid hi9'
        have HB9 := Lib.hid (HBW3.out.trans ((HZ.out.mono HBW3.out.size).trans hb9))
        clear hi9 hi9' hb9
        go_wp2_with fail
        go_roundw
        case rel => exact ⟨k + 1, by omega, by go_num, HI9, HB9⟩
        case measure => simp [intOf]; omega
    · obtain rfl : k = nl := by omega
      have hd : decide ((k : Int) < (k : Int)) = false := decide_eq_false (by omega)
      have hib := HI.out
      rw [List.take_of_length_le (by rw [HN.out]; exact Nat.le_refl _)] at hib
      have HSF := Lib.hid (string_f w.heap.size (descT b l) wr ⟨Lib.IsBuilderF.of hib.1, hib.2⟩)
      clear hib
      go_wp2_with fail
      refine HSF.out.mono ?_
      rintro e w1 ⟨rfl, -, hb1⟩
      go_wp2_with fail
      go_ret
      exact ⟨rfl, HBW.out.trans hb1⟩
end Go.Proofs.YtjhmipidmpmlmaaGreatDoor
namespace Go.Proofs.YtjhmipidmpmlmaaGreatDoor
set_option linter.unusedVariables false
set_option linter.unusedSimpArgs false
set_option maxRecDepth 100000
open Go.RowKit
open Go.Maps (Keyed)
def factCl (N ga fa n ca ge fe ce k : Nat) (bb : Bool) (rv cv : Value) (cs : List (Option Nat)) (row : List Ed) (NB : ByteArray) : Nat → Nat → Value → World → Prop
  | c, 0, x, w => x = .pointer (some ⟨N, 1, none⟩)
  | c, 1, x, w => x = .slice (some ⟨ga, fa, none⟩) n ca
  | c, 2, x, w => x = .int .i64 (k : Int)
  | c, 3, x, w => x = .pointer (some ⟨ga, fa + k, none⟩)
  | c, 4, x, w => x = .bool bb
  | c, 5, x, w => x = .pointer (some ⟨N, 0, none⟩)
  | c, 6, x, w => x = .slice (some ⟨ge, fe, none⟩) n ce
  | c, 7, x, w => x = .int .i64 (k : Int)
  | c, 8, x, w => x = .pointer (some ⟨ge, fe + k, none⟩)
  | c, 9, x, w => x = rv
  | c, 10, x, w => x = cv
  | c, 11, x, w => ∃ A c, x = .slice A (joinF (clF cs) row).length c ∧ EdIn w x (joinF (clF cs) row)
  | c, 12, x, w => x = .string NB
  | _, _, _, _ => True
/-- What the rounds leave. -/
structure RdR (m : Mc) (WB : World) (cs ds : List (Option Nat)) (seen : List (Bool × List Ed)) (F : Lit → Option Value) (n k : Nat) (wr : World) : Prop where
  mn : MN Tryz.prog 9 WB.heap.size seen.length F wr
  sy : SaysD F seen
  own : OR 3 1 clC (WB.heap.size + 1) (.slice (some ⟨WB.heap.size + 1, 0, none⟩) n n) ds wr
  ri : RndI m cs ds seen k
  bl : Below WB.heap.size WB wr
set_option maxHeartbeats 16000000 in
theorem classes_any (v : Value) (m : Mc) (w : World) (hm : McIn w v m) (hv : Vld m) (hsm : McSm m) (h1 : 1 ≤ m.ed.length) (hvr : VrOK w) :
    Calls Tryz.prog 68 #[v] w (ClPost m m.ed.length w) := by
  have hal := fun W (h : Below w.heap.size w W) => alive_any v m W (hm.later h) hv hsm h1
  obtain ⟨ve, va, rfl, he, ha⟩ := hm
  obtain ⟨Ae, ce, rfl, hce1, hce2⟩ := he.form
  obtain ⟨Aa, ca, rfl, hca1, hca2⟩ := ha.form
  obtain ⟨n, hn⟩ : ∃ n, m.ed.length = n := ⟨_, rfl⟩
  have hac : m.ac.length = n := by rw [hv.len, hn]
  have hnn := hsm.n
  rw [hac] at ha hca1
  rw [hn] at he hce1 h1 hnn
  rw [hn, hac] at hal
  have HAL := Lib.hid hal
  have HE := Lib.hid he
  have HA := Lib.hid ha
  have HV := Lib.hid hv
  have HSM := Lib.hid hsm
  have HN := Lib.hid (And.intro hn hac)
  have HVR := Lib.hid hvr
  have K : Keyed Tryz.prog 9 := Maps.string_keyed Tryz.underlying9
  have hz : ∀ w, (zeroValue 3).run Tryz.prog w = .ok (.int .i64 0) w := fun _ => by kernel_rfl
  have hmk := mk_zeros n (by omega)
  have hmm := @run_makeMap Tryz.prog
  rw [hac, hn]
  have hlow := hvr.low
  clear hal he ha hv hsm hn hac hvr
  go_enter Tryz.func68, Tryz.ntmps68
  go_wp2_with fail
  refine (HAL.out _ ?hb0).mono ?_
  case hb0 => exact ((Below.refl w.heap.size w).alloc (Nat.le_refl _) _).alloc (by simp) _
  rintro e w1 ⟨rv, o, rfl, hown1, hb1, ho1, ho2⟩
  have hzz0 : ((w.alloc (.cells #[.slice Ae n ce, .slice Aa n ca] 34)).alloc (.cells (Array.replicate n (.int .i64 0)) 3)).heap.size = w.heap.size + 2 := by simp
  have hzero := zeros_new (w.alloc (.cells #[.slice Ae n ce, .slice Aa n ca] 34)) n (by omega)
  have hsz1 : (w.alloc (.cells #[.slice Ae n ce, .slice Aa n ca] 34)).heap.size = w.heap.size + 1 := by simp
  rw [hsz1] at hzero
  have hbx1 : w1.heap[w.heap.size]? = some (.cells #[.slice Ae n ce, .slice Aa n ca] 34 (0, 0)) := (hb1.block _ (by omega)).trans ((old_alloc _ _ _ (by simp)).trans (heap_alloc_new w _))
  have hcl1 : OR 3 1 clC (w.heap.size + 1) (.slice (some ⟨w.heap.size + 1, 0, none⟩) n n) (firstC o 0 n) w1 := by rw [firstC_zero]; exact hzero.later hb1
  have hob1 := (BlIn.of_OR hown1)
  have hb1z := hb1.size
  rw [hzz0] at hb1z
  have hbw1 : Below w.heap.size w w1 := (((Below.refl w.heap.size w).alloc (Nat.le_refl _) _).alloc (by simp) _).trans (hb1.mono (by omega))
  obtain ⟨Ao, co, eo, hco1, hco2⟩ := hob1.form
  subst eo
  have HO12 := Lib.hid (And.intro ho1 ho2)
  have HOB := Lib.hid hob1
  have HBX1 := Lib.hid hbx1
  have HCL1 := Lib.hid hcl1
  have HBW1 := Lib.hid hbw1
  have hgo1 := hown1.1
  -- the row of what is alive lies above
  have hoA : o = [] ∨ ∃ g f, Ao = some ⟨g, f, none⟩ ∧ w.heap.size + 2 ≤ g := by
    by_cases h0 : o = []
    · exact .inl h0
    · obtain ⟨A, c, e, -, hor⟩ := hown1.cells bC_E
      obtain ⟨g, hA, hg, -, -⟩ := hor.resolve_left h0
      injection e with e1 _ _
      rw [hzz0] at hg
      exact .inr ⟨g, 0, by rw [e1, hA], hg⟩
  have HOA := Lib.hid hoA
  rw [ho1]
  rw [ho1] at hco1
  clear hown1 hzz0 hzero hsz1 hbx1 hcl1 hob1 hbw1 ho1 ho2 hb1 hgo1 hoA
  go_wp2_with fail
  go_loopw [21] (fun iv wr => ∃ k : Nat, k ≤ n ∧ iv = .int .i64 (k : Int) ∧ Hid (OR 3 1 clC (w.heap.size + 1) (.slice (some ⟨w.heap.size + 1, 0, none⟩) n n) (firstC o k n) wr) ∧ Hid (KeepF [w.heap.size + 1] [w.heap.size + 1] w1 wr)) (fun iv _ => n - (intOf iv).toNat)
  case atStart => exact ⟨0, Nat.zero_le _, rfl, HCL1, KeepF.refl _ _⟩
  case round =>
    obtain ⟨k, hk, rfl, HC, HK⟩ := hrel
    have hwz := HK.out.size
    by_cases hlt : k < n
    · have hd : decide ((k : Int) < (n : Int)) = true := decide_eq_true (by omega)
      have hkl : k < o.length := by rw [HO12.out.1]; exact hlt
      obtain ⟨g, f, rfl, -, hg, c0⟩ := HOB.out.at_ hkl
      have hgA : w.heap.size + 2 ≤ g := by
        rcases HOA.out with h | ⟨g', f', e', h⟩
        · rw [h] at hkl; cases hkl
        · injection e' with e'; injection e' with e1 _; rw [e1]; exact h
      have c0r := (World.cell?_of_block (a := ⟨g, f + k, none⟩) (HK.out.blk g hg (by simp; omega))).trans c0
      obtain ⟨q, hq⟩ : ∃ q, o[k] = q := ⟨_, rfl⟩
      rw [hq] at c0r
      have hok : o[k]? = some q := by rw [List.getElem?_eq_getElem hkl, hq]
      have HOK := Lib.hid hok
      have hgr : g < wr.heap.size := by omega
      obtain ⟨y0, y1⟩ := HC.out.cellC k (by rw [firstC_len]; exact hlt)
      have hgy := HC.out.lt1
      have hkd : decide (k < n) = true := decide_eq_true hlt
      clear c0 hq hok hkl
      cases q with
      | true =>
        go_wp2_with fail
        go_roundw
        case rel => exact ⟨k + 1, by omega, by go_num, by rw [firstC_true HOK.out]; exact HC, HK⟩
        case measure => simp [intOf]; omega
      | false =>
        have hset := HC.out.setC (firstC_len _ _ _) k none
        have hset2 : OR 3 1 clC (w.heap.size + 1) (.slice (some ⟨w.heap.size + 1, 0, none⟩) n n) (firstC o (k + 1) n) (wr.setCell ⟨w.heap.size + 1, k, none⟩ (.int .i64 (-1))) := by rw [firstC_false HOK.out]; exact hset
        have HS2 := Lib.hid hset2
        have hk2 : KeepF [w.heap.size + 1] [w.heap.size + 1] w1 (wr.setCell ⟨w.heap.size + 1, k, none⟩ (.int .i64 (-1))) := HK.out.trans ⟨rfl, rfl, rfl, by simp [World.setCell], fun q _ hn => Below.heap_setCell _ _ _ _ (fun e => hn (by simp [show q = w.heap.size + 1 from e])), fun k hk => .inl hk⟩
        have HK2 := Lib.hid hk2
        clear hset hset2 hk2
        go_wp2_with fail
        go_roundw
        case rel => exact ⟨k + 1, by omega, by go_num, HS2, HK2⟩
        case measure => simp [intOf]; omega
    · obtain rfl : k = n := by omega
      have hd : decide ((k : Int) < (k : Int)) = false := decide_eq_false (by omega)
      have hbxr := (HK.out.blk w.heap.size (by omega) (by simp)).trans HBX1.out
      have hblr : Below w.heap.size w wr := HBW1.out.trans (HK.out.below (fun q hq => by rw [List.mem_singleton] at hq; omega) HBW1.out.size)
      have hhd := HeadC.first (m := m) (o := o) (by rw [HO12.out.1, HN.out.1]) (by rw [HN.out.1]; exact HO12.out.2) (by rw [HN.out.1]; exact h1)
      rw [HN.out.1] at hhd
      have HBXR := Lib.hid hbxr
      have HBLR := Lib.hid hblr
      have HHD := Lib.hid hhd
      obtain ⟨W1, rfl⟩ : ∃ W : World, W = wr := ⟨_, rfl⟩
      clear hbxr hblr hhd
      go_wp2_with fail
      go_loopg [3, 6] (k + 2) (fun q cv kv wr => ∃ (g3 c3 kn : Nat) (cs : List (Option Nat)), cv = .slice (some ⟨g3, 0, none⟩) k c3 ∧ kv = .int .i64 (kn : Int) ∧ q + kn = k + 2 ∧ kn ≤ k ∧ Hid (OR 3 1 clC (w.heap.size + 1) (.slice (some ⟨g3, 0, none⟩) k c3) cs wr) ∧ Hid (HeadC m cs kn) ∧ Hid (wr.heap[w.heap.size]? = some (.cells #[.slice Ae k ce, .slice Aa k ca] 34 (0, 0))) ∧ Hid (Below w.heap.size w wr))
      case atStart => exact ⟨w.heap.size + 1, k, 0, firstC o k k, rfl, rfl, rfl, Nat.zero_le _, HC, HHD, HBXR, HBLR⟩
      case round =>
        obtain ⟨g3, c3, kn, cs, rfl, rfl, hq, hkn, HCS, HH, HBX, HBL⟩ := hrel
        obtain ⟨WB, rfl⟩ : ∃ W : World, W = wr := ⟨_, rfl⟩
        have hg3 := HCS.out.lt1
        have hcsl : cs.length = k := by rw [HH.out.len, HN.out.1]
        have hwB := HBL.out.size
        have hNB : w.heap.size < WB.heap.size := (Array.getElem?_eq_some_iff.1 HBX.out).1
        have hmn0 : MN Tryz.prog 9 WB.heap.size 0 (fun _ => none) (WB.alloc (.map #[] 0)) := MN.made _ _ _
        have hz0 := zeros_new (WB.alloc (.map #[] 0)) k (by omega)
        have hszm : (WB.alloc (.map #[] 0)).heap.size = WB.heap.size + 1 := by simp
        rw [hszm] at hz0
        have hR0 : RdR m WB cs (List.replicate k (some 0)) [] (fun _ => none) k 0 ((WB.alloc (.map #[] 0)).alloc (.cells (Array.replicate k (.int .i64 0)) 3)) :=
          ⟨hmn0.kept (old_alloc _ _ _ (by omega)), SaysD.nil, hz0, RndI.start _ (by simp [HN.out.1]), ((Below.refl _ WB).alloc (Nat.le_refl _) _).alloc (by omega) _⟩
        have HR0 := Lib.hid hR0
        have HCSL := Lib.hid hcsl
        clear hmn0 hz0 hszm hR0 hcsl
        go_wp2_with fail
        go_loopw [38] (fun iv wr => ∃ (j : Nat) (ds : List (Option Nat)) (seen : List (Bool × List Ed)) (F : Lit → Option Value), j ≤ k ∧ iv = .int .i64 (j : Int) ∧ Hid (RdR m WB cs ds seen F k j wr)) (fun iv _ => k - (intOf iv).toNat)
        case atStart => exact ⟨0, _, [], _, Nat.zero_le _, rfl, HR0⟩
        case round =>
          obtain ⟨j, ds, seen, F, hj, rfl, HR⟩ := hrel
          have hwr := HR.out.bl.size
          have hsl := HR.out.own.lt1
          have hdl : ds.length = k := by rw [HR.out.ri.len, HN.out.1]
          by_cases hlt : j < k
          · have hd : decide ((j : Int) < (k : Int)) = true := decide_eq_true (by omega)
            have hdn : decide (j < k) = true := decide_eq_true hlt
            have hjn : j < m.ed.length := by rw [HN.out.1]; exact hlt
            obtain ⟨cc0, -⟩ := HCS.out.cellC j (by rw [HCSL.out]; exact hlt)
            have cc1 := (HR.out.bl.cell (p := ⟨g3, j, none⟩) hg3).trans cc0
            have hg3r : g3 < wr.heap.size := by omega
            obtain ⟨dd0, dd1⟩ := HR.out.own.cellC j (by rw [hdl]; exact hlt)
            have HDL := Lib.hid hdl
            clear cc0 hdl
            cases hcl : clF cs j with
            | none =>
              rw [hcl] at cc1
              have cc2 : wr.cell? ⟨g3, j, none⟩ = some (.int .i64 (-1)) := cc1
              have hset := HR.out.own.setC HDL.out j none
              have hne : WB.heap.size ≠ WB.heap.size + 1 := by omega
              have hR2 : RdR m WB cs (ds.set j none) seen F k (j + 1) (wr.setCell ⟨WB.heap.size + 1, j, none⟩ (.int .i64 (-1))) :=
                ⟨HR.out.mn.kept (Below.heap_setCell _ _ _ _ hne), HR.out.sy, hset, HR.out.ri.none_ hjn hcl, HR.out.bl.setCell (p := ⟨WB.heap.size + 1, j, none⟩) (by show WB.heap.size ≤ WB.heap.size + 1; omega) _⟩
              have HR2 := Lib.hid hR2
              clear cc1 hcl hset hR2
              go_wp2_with fail
              go_roundw
              case rel => exact ⟨j + 1, _, _, _, by omega, by go_num, HR2⟩
              case measure => simp [intOf]; omega
            | some cl =>
              rw [hcl] at cc1
              have cc2 : wr.cell? ⟨g3, j, none⟩ = some (.int .i64 (cl : Int)) := cc1
              have hdc : decide ((cl : Int) < 0) = false := decide_eq_false (by omega)
              have hcn : clF cs j ≠ none := by rw [hcl]; simp
              have HCN := Lib.hid hcn
              have hbwr := HBL.out.trans (HR.out.bl.mono hwB)
              obtain ⟨ga, fa, rfl, -, hga, ca0'⟩ := HA.out.at_ (show j < m.ac.length by rw [HN.out.2]; exact hlt)
              obtain ⟨ge, fe, rv0, rfl, -, hge, ce0', hed0⟩ := HE.out.at_ hjn
              have ca0 := (World.cell?_of_block (a := ⟨ga, fa + j, none⟩) (hbwr.block ga hga)).trans ca0'
              have ce0 := (World.cell?_of_block (a := ⟨ge, fe + j, none⟩) (hbwr.block ge hge)).trans ce0'
              have hed := hed0.later hbwr
              obtain ⟨row, hrow⟩ : ∃ r, m.ed[j] = r := ⟨_, rfl⟩
              obtain ⟨bb, hbb⟩ : ∃ b, m.ac[j]'(by rw [HN.out.2]; exact hlt) = b := ⟨_, rfl⟩
              rw [hrow] at hed
              rw [hbb] at ca0
              have hrm : row ∈ m.ed := by rw [← hrow]; exact List.getElem_mem hjn
              have hrM : rowM m j = row := by unfold rowM; rw [List.getElem?_eq_getElem hjn, hrow]; rfl
              have haM : (m.ac[j]?).getD false = bb := by rw [List.getElem?_eq_getElem (by rw [HN.out.2]; exact hlt), hbb]; rfl
              have hdsc : dsc m cs j = (bb, joinF (clF cs) row) := by unfold dsc descF; rw [hrM, haM]
              have hjb := joinF_by (cls := clF cs) (HV.out.srt row hrm) (HSM.out.by_ row hrm)
              have HTO := Lib.hid (show ∀ e ∈ row, e.to < cs.length from fun e he => by rw [HCSL.out, ← HN.out.1]; exact HV.out.to row hrm e he)
              have HBY := Lib.hid (HSM.out.by_ row hrm)
              have HJB := Lib.hid (show ∀ e ∈ joinF (clF cs) row, e.lo < 256 ∧ e.hi < 256 ∧ e.to < 1000000 from fun e he => by
                obtain ⟨h1, h2, f, hf, h3⟩ := hjb e he
                have := HH.out.lt _ _ h3
                have := HN.out.1
                exact ⟨h1, h2, by omega⟩)
              have hrl := HSM.out.rl row hrm
              have HJL := Lib.hid (show (joinF (clF cs) row).length ≤ 10000 from Nat.le_trans (joinF_len _ _) hrl)
              have hbx := (HR.out.bl.block _ hNB).trans HBX.out
              obtain ⟨c0, c1⟩ : wr.cell? ⟨w.heap.size, 0, none⟩ = some (.slice (some ⟨ge, fe, none⟩) k ce) ∧ wr.cell? ⟨w.heap.size, 1, none⟩ = some (.slice (some ⟨ga, fa, none⟩) k ca) := by
                constructor <;> (rw [cell_of_row _ _ _ _ _ _ hbx]; rfl)
              have hNW : w.heap.size < wr.heap.size := by omega
              have hgaW : ga < wr.heap.size := by omega
              have hgeW : ge < wr.heap.size := by omega
              obtain ⟨Ar, cr, hrf, -⟩ := hed.form
              obtain ⟨nrow, hnrow⟩ : ∃ n, row.length = n := ⟨_, rfl⟩
              rw [hnrow] at hrf hrl
              subst hrf
              have hed' : EdIn wr (.slice Ar nrow cr) row := hed
              have HED := Lib.hid hed'
              have HCI := Lib.hid ((ClIn.of_OR HCS.out).later HR.out.bl)
              have HVW := Lib.hid (HVR.out.below hbwr hlow)
              have HDS := Lib.hid (And.intro hdsc hcl)
              have HNR := Lib.hid hnrow
              obtain ⟨W, hWeq⟩ : ∃ W : World, W = wr := ⟨_, rfl⟩
              subst hWeq
              have hS0 : Below W.heap.size W W.drew := (Below.refl _ _).drew
              have HDD := Lib.hid (And.intro dd0 dd1)
              have HHZ := Lib.hid hz
              obtain ⟨NB, hNB⟩ : ∃ N, bs (descT bb (joinF (clF cs) row)) = N := ⟨_, rfl⟩
              have HNB := Lib.hid hNB
              clear hNB
              clear cc1 hcl hcn hbwr hga ca0' hge ce0' hed0 hed hed' hrow hbb hrm hrM haM hdsc hjb hbx dd0 dd1 hmk hmm hz
              go_wp2_with fail
              refine wp_region_chain 13 [] (factCl w.heap.size ga fa k ca ge fe ce j bb (.slice Ar nrow cr) (.slice (some ⟨g3, 0, none⟩) k c3) cs row NB) (fun _ w' => Below W.heap.size W w') (by kernel_rfl) (by kernel_rfl) (by kernel_rfl) (by kernel_rfl) (by kernel_rfl) (by kernel_rfl) (by decide) hS0 ?_ ?_
              · simp only [List.take_succ_cons, List.take_zero]
                refine HSteps.pure (by decide) ?_ (HSteps.pure (by decide) ?_ (HSteps.pure (by decide) ?_ (HSteps.pure (by decide) ?_ (HSteps.pure (by decide) ?_ (HSteps.pure (by decide) ?_ (HSteps.pure (by decide) ?_ (HSteps.pure (by decide) ?_ (HSteps.pure (by decide) ?_ (HSteps.pure (by decide) ?_ (HSteps.pure (by decide) ?_ (HSteps.free (by decide) ?_ (HSteps.free (by decide) ?_ (HSteps.nil)))))))))))))
                · intro v wz c hlo hS hE K hK
                  simp only [putAll, Act.put, List.setIfInBounds_toArray, List.set_cons_zero, List.set_cons_succ, Nat.zero_add, Nat.reduceAdd, List.take_succ_cons, List.take_zero] at hK ⊢
                  have HX := Lib.hid hS
                  clear hS hE hlo
                  go_wp2_with fail
                  exact hK.out _ rfl
                · intro v wz c hlo hS hE K hK
                  simp only [putAll, Act.put, List.setIfInBounds_toArray, List.set_cons_zero, List.set_cons_succ, Nat.zero_add, Nat.reduceAdd, List.take_succ_cons, List.take_zero] at hK ⊢
                  have e0 : v 0 = _ := hE.1 rfl
                  rw [e0] at hK ⊢
                  have bx0 := (hS.cell (p := ⟨w.heap.size, 0, none⟩) hNW).trans c0
                  have bx1 := (hS.cell (p := ⟨w.heap.size, 1, none⟩) hNW).trans c1
                  have lwz : w.heap.size < wz.heap.size := by have := hS.size; omega
                  have HX := Lib.hid hS
                  clear hS hE hlo
                  go_wp2_with fail
                  exact hK.out _ rfl
                · intro v wz c hlo hS hE K hK
                  simp only [putAll, Act.put, List.setIfInBounds_toArray, List.set_cons_zero, List.set_cons_succ, Nat.zero_add, Nat.reduceAdd, List.take_succ_cons, List.take_zero] at hK ⊢
                  have HX := Lib.hid hS
                  clear hS hE hlo
                  go_wp2_with fail
                  exact hK.out _ rfl
                · intro v wz c hlo hS hE K hK
                  simp only [putAll, Act.put, List.setIfInBounds_toArray, List.set_cons_zero, List.set_cons_succ, Nat.zero_add, Nat.reduceAdd, List.take_succ_cons, List.take_zero] at hK ⊢
                  have e1 : v 1 = _ := hE.1 rfl
                  have e2 : v 2 = _ := hE.2.1 rfl
                  rw [e1, e2] at hK ⊢
                  have HX := Lib.hid hS
                  clear hS hE hlo
                  go_wp2_with fail
                  exact hK.out _ rfl
                · intro v wz c hlo hS hE K hK
                  simp only [putAll, Act.put, List.setIfInBounds_toArray, List.set_cons_zero, List.set_cons_succ, Nat.zero_add, Nat.reduceAdd, List.take_succ_cons, List.take_zero] at hK ⊢
                  have e3 : v 3 = _ := hE.1 rfl
                  rw [e3] at hK ⊢
                  have ax := (hS.cell (p := ⟨ga, fa + j, none⟩) hgaW).trans ca0
                  have lwa : ga < wz.heap.size := by have := hS.size; omega
                  have HX := Lib.hid hS
                  clear hS hE hlo
                  go_wp2_with fail
                  exact hK.out _ rfl
                · intro v wz c hlo hS hE K hK
                  simp only [putAll, Act.put, List.setIfInBounds_toArray, List.set_cons_zero, List.set_cons_succ, Nat.zero_add, Nat.reduceAdd, List.take_succ_cons, List.take_zero] at hK ⊢
                  have HX := Lib.hid hS
                  clear hS hE hlo
                  go_wp2_with fail
                  exact hK.out _ rfl
                · intro v wz c hlo hS hE K hK
                  simp only [putAll, Act.put, List.setIfInBounds_toArray, List.set_cons_zero, List.set_cons_succ, Nat.zero_add, Nat.reduceAdd, List.take_succ_cons, List.take_zero] at hK ⊢
                  have e5 : v 5 = _ := hE.1 rfl
                  rw [e5] at hK ⊢
                  have bx0 := (hS.cell (p := ⟨w.heap.size, 0, none⟩) hNW).trans c0
                  have bx1 := (hS.cell (p := ⟨w.heap.size, 1, none⟩) hNW).trans c1
                  have lwz : w.heap.size < wz.heap.size := by have := hS.size; omega
                  have HX := Lib.hid hS
                  clear hS hE hlo
                  go_wp2_with fail
                  exact hK.out _ rfl
                · intro v wz c hlo hS hE K hK
                  simp only [putAll, Act.put, List.setIfInBounds_toArray, List.set_cons_zero, List.set_cons_succ, Nat.zero_add, Nat.reduceAdd, List.take_succ_cons, List.take_zero] at hK ⊢
                  have HX := Lib.hid hS
                  clear hS hE hlo
                  go_wp2_with fail
                  exact hK.out _ rfl
                · intro v wz c hlo hS hE K hK
                  simp only [putAll, Act.put, List.setIfInBounds_toArray, List.set_cons_zero, List.set_cons_succ, Nat.zero_add, Nat.reduceAdd, List.take_succ_cons, List.take_zero] at hK ⊢
                  have e6 : v 6 = _ := hE.1 rfl
                  have e7 : v 7 = _ := hE.2.1 rfl
                  rw [e6, e7] at hK ⊢
                  have HX := Lib.hid hS
                  clear hS hE hlo
                  go_wp2_with fail
                  exact hK.out _ rfl
                · intro v wz c hlo hS hE K hK
                  simp only [putAll, Act.put, List.setIfInBounds_toArray, List.set_cons_zero, List.set_cons_succ, Nat.zero_add, Nat.reduceAdd, List.take_succ_cons, List.take_zero] at hK ⊢
                  have e8 : v 8 = _ := hE.1 rfl
                  rw [e8] at hK ⊢
                  have ex := (hS.cell (p := ⟨ge, fe + j, none⟩) hgeW).trans ce0
                  have lwe : ge < wz.heap.size := by have := hS.size; omega
                  have HX := Lib.hid hS
                  clear hS hE hlo
                  go_wp2_with fail
                  exact hK.out _ rfl
                · intro v wz c hlo hS hE K hK
                  simp only [putAll, Act.put, List.setIfInBounds_toArray, List.set_cons_zero, List.set_cons_succ, Nat.zero_add, Nat.reduceAdd, List.take_succ_cons, List.take_zero] at hK ⊢
                  have HX := Lib.hid hS
                  clear hS hE hlo
                  go_wp2_with fail
                  exact hK.out _ rfl
                · intro v wz c hlo hS hE K hK
                  simp only [putAll, Act.put, List.setIfInBounds_toArray, List.set_cons_zero, List.set_cons_succ, Nat.zero_add, Nat.reduceAdd, List.take_succ_cons, List.take_zero] at hK ⊢
                  have e9 : v 9 = _ := hE.1 rfl
                  have e10 : v 10 = _ := hE.2.1 rfl
                  rw [e9, e10] at hK ⊢
                  have hcall := joined_any (.slice Ar nrow cr) (.slice (some ⟨g3, 0, none⟩) k c3) row cs wz (HED.out.later hS) (HCI.out.later hS) HTO.out HBY.out (by rw [HNR.out]; omega)
                  have HC := Lib.hid hcall
                  have HX := Lib.hid hS
                  clear hS hE hlo hcall
                  go_wp2_with fail
                  refine HC.out.mono ?_
                  rintro e wy ⟨jv, rfl, ho, hb⟩
                  have hed := EdIn.of_OR ho
                  obtain ⟨Aj, cj, rfl, -⟩ := hed.form
                  have HBY2 := Lib.hid (HX.out.trans (hb.mono HX.out.size))
                  have HJ := Lib.hid hed
                  clear ho hb hed
                  go_wp2_with fail
                  refine hK.out _ _ (fun j z hj h => ?_) HBY2.out ⟨Aj, cj, rfl, HJ.out⟩
                  match j with
                  | 0 | 1 | 2 | 3 | 4 | 5 | 6 | 7 | 8 | 9 | 10 => exact h
                  | 11 => exact absurd rfl hj
                  | 12 => exact h
                  | _ + 13 => exact trivial
                · intro v wz c hlo hS hE K hK
                  simp only [putAll, Act.put, List.setIfInBounds_toArray, List.set_cons_zero, List.set_cons_succ, Nat.zero_add, Nat.reduceAdd, List.take_succ_cons, List.take_zero] at hK ⊢
                  have e4 : v 4 = _ := hE.1 rfl
                  rw [e4] at hK ⊢
                  have E11 := hE.2.1 rfl
                  obtain ⟨Aj, cj, e11, hj⟩ := E11
                  rw [e11] at hK hj ⊢
                  have hcall := describe_any bb _ (joinF (clF cs) row) wz hj HJB.out (by have := HJL.out; omega) (HVW.out.later hS)
                  rw [HNB.out] at hcall
                  have HC := Lib.hid hcall
                  have HX := Lib.hid hS
                  clear hS hE hlo hcall hj e11
                  go_wp2_with fail
                  refine HC.out.mono ?_
                  rintro e wy ⟨rfl, hb⟩
                  have HBY2 := Lib.hid (HX.out.trans (hb.mono HX.out.size))
                  have HB3 := Lib.hid hb
                  clear hb
                  go_wp2_with fail
                  refine hK.out _ _ (fun j z hj h => ?_) HBY2.out rfl
                  match j with
                  | 0 | 1 | 2 | 3 | 4 | 5 | 6 | 7 | 8 | 9 | 10 => exact h
                  | 11 =>
                    obtain ⟨A, c, e, h2⟩ := h
                    exact ⟨A, c, e, h2.later HB3.out⟩
                  | 12 => exact absurd rfl hj
                  | _ + 13 => exact trivial
              · intro v wz hS hF
                have e0 : v 0 = _ := hF 0 (by decide)
                have e1 : v 1 = _ := hF 1 (by decide)
                have e2 : v 2 = _ := hF 2 (by decide)
                have e3 : v 3 = _ := hF 3 (by decide)
                have e4 : v 4 = _ := hF 4 (by decide)
                have e5 : v 5 = _ := hF 5 (by decide)
                have e6 : v 6 = _ := hF 6 (by decide)
                have e7 : v 7 = _ := hF 7 (by decide)
                have e8 : v 8 = _ := hF 8 (by decide)
                have e9 : v 9 = _ := hF 9 (by decide)
                have e10 : v 10 = _ := hF 10 (by decide)
                have E11 := hF 11 (by decide)
                have E12 := hF 12 (by decide)
                simp only [putAll, Act.put, List.setIfInBounds_toArray, List.set_cons_zero, List.set_cons_succ, Nat.zero_add, Nat.reduceAdd, List.take_succ_cons, List.take_zero, List.drop_succ_cons, List.drop_zero, e0, e1, e2, e3, e4, e5, e6, e7, e8, e9, e10]
                clear hF e0 e1 e2 e3 e4 e5 e6 e7 e8 e9 e10
                have e12 : v 12 = _ := E12
                rw [e12]
                have hz := HHZ.out
                have hsz := hS.size
                have hmbW : WB.heap.size < W.heap.size := by omega
                have hmz : MN Tryz.prog 9 WB.heap.size seen.length F wz := HR.out.mn.kept (hS.block _ hmbW)
                have hoz := HR.out.own.later hS
                have hbz : Below WB.heap.size WB wz := HR.out.bl.trans (hS.mono hwr)
                obtain ⟨dd0, dd1⟩ := hoz.cellC j (by rw [HDL.out]; exact hlt)
                have hlz : WB.heap.size + 1 < wz.heap.size := by omega
                obtain ⟨nm, hnm⟩ : ∃ x, descT bb (joinF (clF cs) row) = x := ⟨_, rfl⟩
                have hkey : keyOf Tryz.prog 9 (.string (bs nm)) = some (.string nm) := by
                  have h1 := descE_len _ HJB.out
                  have h2 : (boolT bb).length ≤ 5 := by cases bb <;> decide
                  have := WideMaps.keyOf_string_mk (P := Tryz.prog) (k := 9) Tryz.underlying9 (s := bs nm) (by rw [size_bs, ← hnm]; unfold descT; rw [List.length_append]; unfold maxLen; have := HJL.out; omega)
                  rwa [bs_data] at this
                obtain rfl : NB = bs nm := by rw [← HNB.out, hnm]
                have HNM := Lib.hid hnm
                have HKEY := Lib.hid hkey
                have HMZ := Lib.hid hmz
                have HOZ := Lib.hid hoz
                have HBZ := Lib.hid hbz
                have hsl2 : seen.length ≤ k := by
                  have h1 := nodup_le (l := seen) (r := (List.range j).map (dsc m cs)) HR.out.ri.nd (fun x hx => by
                    obtain ⟨s, h1, -, h3⟩ := HR.out.ri.of_ x hx
                    exact List.mem_map.2 ⟨s, List.mem_range.2 h1, h3⟩)
                  simp at h1; omega
                clear hS E11 E12 e12 hmz hoz hbz hnm hkey
                by_cases hin : dsc m cs j ∈ seen
                · have hlook : (Instr.lookup 65 (.map (some WB.heap.size)) (.string (bs nm)) true).run Tryz.prog wz = .ok (.tuple #[.int .i64 ((seen.idxOf (dsc m cs j) : Nat) : Int), .bool true]) wz := by
                    have h1 := HMZ.out.mv.look_ok K Tryz.underlying65 hz HKEY.out trivial
                    have h2 := HR.out.sy (dsc m cs j)
                    rw [HDS.out.1] at h2
                    simp only [HNM.out] at h2
                    rw [h2, ← HDS.out.1, idxD, if_pos hin] at h1
                    exact h1
                  obtain ⟨ix, hix⟩ : ∃ i, seen.idxOf (dsc m cs j) = i := ⟨_, rfl⟩
                  rw [hix] at hlook
                  have hset := HOZ.out.setC HDL.out j (some ix)
                  have hR2 : RdR m WB cs (ds.set j (some ix)) seen F k (j + 1) (wz.setCell ⟨WB.heap.size + 1, j, none⟩ (.int .i64 (ix : Int))) :=
                    ⟨HMZ.out.kept (Below.heap_setCell _ _ _ _ (by show WB.heap.size ≠ WB.heap.size + 1; omega)), HR.out.sy, hset, by rw [← hix]; exact HR.out.ri.old hjn HCN.out hin, HBZ.out.setCell (p := ⟨WB.heap.size + 1, j, none⟩) (by show WB.heap.size ≤ WB.heap.size + 1; omega) _⟩
                  have HR2 := Lib.hid hR2
                  have HIN := Lib.hid hin
                  clear hix hset hR2 hin
                  go_wp2_with fail
                  go_roundw
                  case rel => exact ⟨j + 1, _, _, _, by omega, by go_num, HR2⟩
                  case measure => simp [intOf]; omega
                · have hlook : (Instr.lookup 65 (.map (some WB.heap.size)) (.string (bs nm)) true).run Tryz.prog wz = .ok (.tuple #[.int .i64 0, .bool false]) wz := by
                    have h1 := HMZ.out.mv.look_ok K Tryz.underlying65 hz HKEY.out trivial
                    have h2 := HR.out.sy (dsc m cs j)
                    rw [HDS.out.1] at h2
                    simp only [HNM.out] at h2
                    rw [h2, ← HDS.out.1, idxD, if_neg hin] at h1
                    exact h1
                  have hfn : F (.string nm) = none := by
                    have h2 := HR.out.sy (dsc m cs j)
                    rw [HDS.out.1] at h2
                    simp only [HNM.out] at h2
                    rw [h2, ← HDS.out.1, idxD, if_neg hin]
                  obtain ⟨sl, hsl3⟩ : ∃ n, seen.length = n := ⟨_, rfl⟩
                  have hmz := HMZ.out
                  rw [hsl3] at hmz hsl2
                  have HIN := Lib.hid (And.intro hin hsl3)
                  have HMZ3 := Lib.hid hmz
                  have HFN := Lib.hid hfn
                  clear hin hsl3 hmz hfn
                  go_wp2_with (first
                    | (at_len; refine wpList_len_MN rfl _ 65 rfl 9 3 Tryz.underlying65 WB.heap.size sl F rfl HMZ3.out ?_)
                    | (at_mapUpdate; refine wpList_put_MN wz rfl _ _ _ 65 rfl 9 3 K Tryz.underlying65 WB.heap.size sl F rfl HMZ3.out (by unfold maxLen; omega) _ _ _ rfl rfl HKEY.out trivial HFN.out ?_))
                  intro wm hmm4 hgm
                  have hzm := hgm.size
                  have hom : OR 3 1 clC (WB.heap.size + 1) (.slice (some ⟨WB.heap.size + 1, 0, none⟩) k k) ds wm := OR.keep HOZ.out fun g hg => hgm.block g (World.ownsRow.lt HOZ.out g hg).2 (fun e => by
                    have := (World.ownsRow.lt HOZ.out g hg).1
                    injection e with e; omega)
                  obtain ⟨ee0, ee1⟩ := hom.cellC j (by rw [HDL.out]; exact hlt)
                  have hlm : WB.heap.size + 1 < wm.heap.size := by omega
                  have hset := hom.setC HDL.out j (some sl)
                  have hbm : Below WB.heap.size WB wm := HBZ.out.grown hgm (by omega) (fun q hq => by injection hq with hq; omega)
                  have hsy := HR.out.sy.put (dsc m cs j) HIN.out.1 (sl : Int) (by rw [HIN.out.2])
                  rw [HDS.out.1] at hsy
                  simp only [HNM.out] at hsy
                  have hri := HR.out.ri.new hjn HCN.out HIN.out.1
                  rw [HIN.out.2, HDS.out.1] at hri
                  have hR2 : RdR m WB cs (ds.set j (some sl)) (seen ++ [(bb, joinF (clF cs) row)]) (updV F (.string nm) (some (.int .i64 (sl : Int)))) k (j + 1) (wm.setCell ⟨WB.heap.size + 1, j, none⟩ (.int .i64 (sl : Int))) :=
                    ⟨by rw [List.length_append, HIN.out.2]; exact hmm4.kept (Below.heap_setCell _ _ _ _ (by show WB.heap.size ≠ WB.heap.size + 1; omega)), hsy, hset, hri, hbm.setCell (p := ⟨WB.heap.size + 1, j, none⟩) (by show WB.heap.size ≤ WB.heap.size + 1; omega) _⟩
                  have HR2 := Lib.hid hR2
                  clear hmm4 hgm hom hset hbm hsy hri hR2 dd0 dd1
                  go_wp2_with fail
                  go_roundw
                  case rel => exact ⟨j + 1, _, _, _, by omega, by go_num, HR2⟩
                  case measure => simp [intOf]; omega
          · have hjk : j = k := by omega
            have hd : decide ((j : Int) < (k : Int)) = false := decide_eq_false (by omega)
            have HJK := Lib.hid hjk
            clear hjk
            obtain ⟨sl, hsl3⟩ : ∃ n, seen.length = n := ⟨_, rfl⟩
            have hmn := HR.out.mn
            rw [hsl3] at hmn
            have HMN := Lib.hid hmn
            have HSL := Lib.hid hsl3
            have hri := HR.out.ri
            rw [HJK.out, ← HN.out.1] at hri
            have HRI := Lib.hid hri
            have hbwr := HBL.out.trans (HR.out.bl.mono hwB)
            have HBW := Lib.hid hbwr
            have hbx := (HR.out.bl.block _ hNB).trans HBX.out
            have HBXR := Lib.hid hbx
            clear hmn hsl3 hri hbwr hbx hdl
            by_cases he : sl = kn
            · have hde : ((sl : Int) == (kn : Int)) = true := by simp; omega
              have HEQ := Lib.hid he
              clear he
              go_wp2_with (at_len; refine wpList_len_MN rfl _ 65 rfl 9 3 Tryz.underlying65 WB.heap.size sl F rfl HMN.out ?_)
              refine post_named fun Wf hWf => ?_
              subst hWf
              refine bodyPost_ret (v := .slice (some ⟨WB.heap.size + 1, 0, none⟩) k k) (by simp [results, Tryz.results68, go_sem]; try rfl) rfl ?_
              refine ⟨_, ds, rfl, HR.out.own.mono (by omega), HBW.out, ?_, HH.out.done HV.out HRI.out (by rw [HSL.out, HEQ.out]), fun s c hc => ?_⟩
              · rw [HR.out.ri.len, HN.out.1]
              · have := HRI.out.lt_ s c hc
                rwa [HN.out.1] at this
            · have hde : ((sl : Int) == (kn : Int)) = false := by simp; omega
              obtain ⟨hn1, hn2, hn3⟩ := HH.out.next HV.out HRI.out (by rw [HSL.out]; exact he)
              rw [HSL.out] at hn2 hn3
              rw [HN.out.1] at hn3
              have HNX := Lib.hid hn1
              clear hn1 he
              go_wp2_with (at_len; refine wpList_len_MN rfl _ 65 rfl 9 3 Tryz.underlying65 WB.heap.size sl F rfl HMN.out ?_)
              go_roundg (k + 2 - sl)
              case measure => omega
              case rel => exact ⟨WB.heap.size + 1, k, sl, ds, rfl, rfl, by omega, by omega, HR.out.own.mono (by omega), by have := HNX.out; rwa [HSL.out] at this, HBXR.out, HBW.out⟩
end Go.Proofs.YtjhmipidmpmlmaaGreatDoor
namespace Go.Proofs.YtjhmipidmpmlmaaGreatDoor
set_option linter.unusedVariables false
set_option linter.unusedSimpArgs false
set_option maxRecDepth 100000
open Go.RowKit
theorem least_any (v : Value) (m : Mc) (w : World) (hm : McIn w v m) (hv : Vld m) (hsm : McSm m) (h1 : 1 ≤ m.ed.length) (hvr : VrOK w) : Calls Tryz.prog 39 #[v] w (LePost m w) :=
  least_of v m w hm hv hsm h1 fun W hb => classes_any v m W (hm.later hb) hv hsm h1 (hvr.later hb)
end Go.Proofs.YtjhmipidmpmlmaaGreatDoor
namespace Go.Proofs.YtjhmipidmpmlmaaGreatDoor
set_option linter.unusedVariables false
set_option linter.unusedSimpArgs false
set_option maxRecDepth 100000
open Go.RowKit
def MlPost (m : Mc) (w : World) (e : Ending) (w' : World) : Prop := ∃ rv m', e = .returned (.tuple #[rv, .int .i64 0]) ∧ McUp w.heap.size w' rv m' ∧ Below w.heap.size w w' ∧ LeOK m m'
theorem mleast_any (v : Value) (m : Mc) (w : World) (hm : McIn w v m) (hv : Vld m) (hsm : McSm m) (h1 : 1 ≤ m.ed.length) (h2 : m.ed.length ≤ 2000) (hvr : VrOK w) : Calls Tryz.prog 21 #[v] w (MlPost m w) := by
  obtain ⟨ve, va, rfl, he, ha⟩ := id hm
  obtain ⟨Ae, ce, rfl, -⟩ := he.form
  obtain ⟨Aa, ca, rfl, -⟩ := ha.form
  have HV := Lib.hid fun W (h : Below w.heap.size w W) => mvalid_any _ m W (hm.later h) hv hsm h1 h2
  have HL := Lib.hid fun W (h : Below w.heap.size w W) => least_any _ m W (hm.later h) hv hsm h1 (hvr.later h)
  clear hm hv hsm h1 h2 he ha hvr
  generalize m.ed.length = n at *
  generalize m.ac.length = k at *
  have HB0 : Hid (Bx w (.slice Ae n ce) (.slice Aa k ca) (.slice none 0 0) (.slice none 0 0) ((w.alloc (.cells #[.slice Ae n ce, .slice Aa k ca] 34)).alloc (.cells #[.slice none 0 0, .slice none 0 0] 34))) :=
    ⟨((Below.refl _ _).alloc (Nat.le_refl _) _).alloc (by simp) _, by simp, by rw [old_alloc _ _ _ (by simp)]; exact heap_alloc_new w _, by simpa using heap_alloc_new (w.alloc (.cells #[.slice Ae n ce, .slice Aa k ca] 34)) (.cells #[.slice none 0 0, .slice none 0 0] 34)⟩
  go_enter Tryz.func21, Tryz.ntmps21
  go_wp2_with fail
  refine (HV.out _ HB0.out.bel).mono ?_
  rintro e w1 ⟨rfl, hb1⟩
  have HB1 := Lib.hid (HB0.out.later hb1)
  obtain ⟨b0, b1, b2, b3, s0, s1⟩ := HB1.out.cells
  clear hb1
  go_wp2_with fail
  refine (HL.out _ HB1.out.bel).mono ?_
  rintro e w9 ⟨rv, m', rfl, hup, hb9, hok⟩
  clear b0 b1 b2 b3 s0 s1
  have HB2 := Lib.hid (HB1.out.later hb9)
  obtain ⟨ve9, va9, rfl, he9, ha9⟩ := id hup.mc
  obtain ⟨A9, c9, rfl, -⟩ := he9.form
  obtain ⟨B9, d9, rfl, -⟩ := ha9.form
  obtain ⟨n9, hn9⟩ : ∃ n, m'.ed.length = n := ⟨_, rfl⟩
  obtain ⟨m9, hm9⟩ : ∃ n, m'.ac.length = n := ⟨_, rfl⟩
  rw [hn9, hm9] at hup ⊢
  have hz9 := hb9.size
  obtain ⟨b0, b1, rz0, rz1, s0, lR9⟩ := HB2.out.cells
  have hR9 := HB2.out.r1
  have gz0 : w9.frozen? ⟨w.heap.size + 1, 0, none⟩ = false := by simp [World.frozen?, hR9]
  have gz1 : w9.frozen? ⟨w.heap.size + 1, 1, none⟩ = false := by simp [World.frozen?, hR9]
  have HUP := Lib.hid (And.intro hup (And.intro hb9 hok))
  clear hup hb9 hok he9 ha9 hR9 hn9 hm9
  go_wp2_with fail
  refine post_named fun Wf hWf => ?_
  refine bodyPost_ret (v := .tuple #[.agg #[.slice A9 n9 c9, .slice B9 m9 d9], .int .i64 0]) (by rw [hWf]; simp [results, Tryz.results21, go_sem, rz0, rz1, lR9]; try rfl) rfl ?_
  have hkl : KeepF [w.heap.size + 1] [] w9 Wf := by
    rw [hWf]
    have hne : ∀ k, k ∉ [w.heap.size + 1] → k ≠ w.heap.size + 1 := fun k hn e => hn (List.mem_singleton.2 e)
    exact ⟨rfl, rfl, rfl, by simp [World.setCell], fun k _ hn => (Below.heap_setCell (w9.setCell ⟨w.heap.size + 1, 0, none⟩ _) ⟨w.heap.size + 1, 1, none⟩ _ k (hne k hn)).trans (Below.heap_setCell w9 ⟨w.heap.size + 1, 0, none⟩ _ k (hne k hn)), fun k hk => by cases hk⟩
  have hsz := HB1.out.siz
  have hbf : Below w.heap.size w Wf := HB2.out.bel.trans (hkl.below (fun k hk => by rw [List.mem_singleton] at hk; omega) HB2.out.bel.size)
  exact ⟨_, m', rfl, (HUP.out.1.keep hkl (fun k hk => by rw [List.mem_singleton] at hk; omega)).mono HB1.out.bel.size, hbf, HUP.out.2.2⟩
end Go.Proofs.YtjhmipidmpmlmaaGreatDoor
namespace Go.Proofs.YtjhmipidmpmlmaaGreatDoor
set_option linter.unusedVariables false
set_option linter.unusedSimpArgs false
set_option maxRecDepth 100000
open Go.RowKit
def BtPost (b : Nat) (lo hi : Int) (w : World) (e : Ending) (w' : World) : Prop := ∃ r : Int, e = .returned (.int .i64 r) ∧ lo ≤ r ∧ r ≤ hi ∧ TapeOK b w' ∧ Fr b w w'
theorem between_any (b : Nat) (lo hi : Int) (w : World) (h0 : -1000 ≤ lo) (h1 : lo ≤ hi) (h2 : hi ≤ 60000) (ht : TapeOK b w) :
    Calls Tryz.prog 26 #[.pointer (some ⟨b, 0, none⟩), .int .i64 lo, .int .i64 hi] w (BtPost b lo hi w) := by
  obtain ⟨n, hn⟩ : ∃ n, hi - lo + 1 = n := ⟨_, rfl⟩
  have hw1 : IntKind.i64.wrap (hi - lo) = hi - lo := IntWalk.i64_in _ (by omega)
  have hw2 : IntKind.i64.wrap (hi - lo + 1) = n := by rw [IntWalk.i64_in _ (by omega)]; exact hn
  have HX := Lib.hid (next_any b n w (by omega) (by omega) ht)
  have HN := Lib.hid hn
  clear hn ht
  go_enter Tryz.func26, Tryz.ntmps26
  go_wp2_with fail
  refine HX.out.mono ?_
  rintro e w1 ⟨r, rfl, hr1, hr2, ht1, hf1⟩
  have hn := HN.out
  have hw3 : IntKind.i64.wrap (lo + r) = lo + r := IntWalk.i64_in _ (by omega)
  have HR := Lib.hid (And.intro (show lo ≤ lo + r by omega) (And.intro (show lo + r ≤ hi by omega) (And.intro ht1 hf1)))
  clear hn hr1 hr2 ht1 hf1
  go_wp2_with fail
  go_ret
  exact ⟨_, rfl, HR.out.1, HR.out.2.1, HR.out.2.2.1, HR.out.2.2.2⟩
end Go.Proofs.YtjhmipidmpmlmaaGreatDoor
namespace Go.Proofs.YtjhmipidmpmlmaaGreatDoor
set_option linter.unusedVariables false
set_option linter.unusedSimpArgs false
set_option maxRecDepth 100000
open Go.RowKit
theorem kf_fr {b : Nat} {L : List Nat} {w w' : World} (hf : Fr b w w') : KeepF (b :: L) [] w w' := ⟨hf.os, hf.tape, hf.output, hf.size, fun k hk hn => hf.block k hk (fun e => hn (by injection e with e; simp [e])), fun k hk => by cases hk⟩
theorem kf_bel {L : List Nat} {w w' : World} (hf : Below w.heap.size w w') : KeepF L [] w w' := ⟨hf.os, hf.tape, hf.output, hf.size, fun k hk _ => hf.block k hk, fun k hk => by cases hk⟩
/-- A row of edges and a bool were added, and the tape's block was written. -/
theorem MkM.both {B N b : Nat} {vE vA vE' vA' v : Value} {gv : List Value} {rs : List (List Ed)} {acs : List Bool} {r : List Ed} {q : Bool} {W w' : World} (h : MkM B N [] vE vA gv rs acs W) (hb : b < B)
    (hk : KeepF (b :: fpM N vE vA) [] W w') (hN : w'.heap[N]? = some (.cells #[vE', vA'] 34 (0, 0))) (hE : w'.ownsRow B 53 1 vE' (rs.length + 1) (gv ++ [v])) (hA : OR 4 1 bC B vA' (acs ++ [q]) w')
    (fE : Fresh vE' vE W.heap.size) (fA : Fresh vA' vA W.heap.size) (hv : EdIn W v r) (ho : outOf (fpM N vE vA) v) (hl : ∀ g, v.ownBlock = some g → B ≤ g ∧ g < W.heap.size) : MkM B N [] vE' vA' (gv ++ [v]) (rs ++ [r]) (acs ++ [q]) w' := by
  refine ⟨hN, h.bN, by rw [List.length_append]; exact hE, fun i hi => ?_, hA, fun k hk hx => by cases hx⟩
  obtain ⟨u, h1, h2, h3, -, h5⟩ := h.rowsNew hv ho (fun g hg hm => by cases hm) hl i hi
  have ho' : outOf (b :: fpM N vE vA) u := fun g hg hm => (List.mem_cons.1 hm).elim (fun e => by have := (h5 g hg).1; omega) (h3 g hg)
  refine ⟨u, h1, h2.keep ho' hk, fun g hg hm => ?_, fun g hg hm => (by cases hm), fun g hg => ⟨(h5 g hg).1, Nat.lt_of_lt_of_le (h5 g hg).2 hk.size⟩⟩
  have hz := (h5 g hg).2
  rcases mem_fpM.1 hm with rfl | hm | hm
  · exact h3 _ hg (mem_fpM.2 (.inl rfl))
  · rcases fresh_keep fE hm with q | q
    · exact h3 g hg (mem_fpM.2 (.inr (.inl q)))
    · omega
  · rcases fresh_keep fA hm with q | q
    · exact h3 g hg (mem_fpM.2 (.inr (.inr q)))
    · omega
/-- Where the steps stand: c of them are done. -/
structure StO (b B N i : Nat) (vE vA : Value) (gv : List Value) (rs : List (List Ed)) (acs : List Bool) (W : World) (c : Nat) (w : World) : Prop where
  m0 : MkM B N [] vE vA gv rs acs W
  bB : b < B
  kf : KeepF (b :: fpM N vE vA) [] W w
  tp : TapeOK b w
  bx : c ≤ 5 → w.heap[N]? = W.heap[N]?
  ve : c ≤ 1 → w.ownsRow B 53 1 vE i gv
  va : c ≤ 4 → w.ownsRow B 4 1 vA i (rowF bC acs)
/-- What the row of edges is. -/
def FEo (B k : Nat) (vE rv : Value) (gv : List Value) (W : World) (c : Nat) (x : Value) (w : World) : Prop :=
  2 ≤ c → c ≤ 5 → (∃ A c', x = .slice A k c') ∧ w.ownsRow B 53 1 x k (gv ++ [rv]) ∧ Fresh x vE W.heap.size
def FBo (B N k : Nat) (vE vA rv : Value) (gv : List Value) (W : World) (c : Nat) (w : World) : Prop :=
  c = 6 → ∃ x, w.ownsRow B 53 1 x k (gv ++ [rv]) ∧ Fresh x vE W.heap.size ∧ w.heap[N]? = some (.cells #[x, vA] 34 (0, 0))
def FAo (B k : Nat) (vA : Value) (acs : List Bool) (W : World) (c : Nat) (x : Value) (w : World) : Prop :=
  5 ≤ c → (∃ A c', x = .slice A k c') ∧ (∃ q, w.ownsRow B 4 1 x k (rowF bC acs ++ [.bool q])) ∧ Fresh x vA W.heap.size
section
variable {b B N i k : Nat} {vE vA rv x y : Value} {gv : List Value} {rs : List (List Ed)} {acs : List Bool} {W w w' : World} {c c' : Nat}
theorem StO.bel (h : StO b B N i vE vA gv rs acs W c w) (hb : Below w.heap.size w w') (hc : c ≤ c') : StO b B N i vE vA gv rs acs W c' w' := by
  have hz := h.kf.size
  have hN := (h.m0.lt N (mem_fpM.2 (.inl rfl))).2
  exact ⟨h.m0, h.bB, h.kf.tr (kf_bel hb), h.tp.below hb, fun q => (hb.block N (by omega)).trans (h.bx (by omega)), fun q => own_same (h.ve (by omega)) fun g hg => hb.block g ((h.ve (by omega)).lt g hg).2, fun q => own_same (h.va (by omega)) fun g hg => hb.block g ((h.va (by omega)).lt g hg).2⟩
theorem StO.nxt (h : StO b B N i vE vA gv rs acs W c w) (hf : Fr b w w') (ht : TapeOK b w') (hc : c ≤ c') : StO b B N i vE vA gv rs acs W c' w' := by
  have hz := h.kf.size
  have hN := (h.m0.lt N (mem_fpM.2 (.inl rfl))).2
  have hb := h.bB
  have hN2 := h.m0.bN
  have hk : ∀ k, k < w.heap.size → B ≤ k → w'.heap[k]? = w.heap[k]? := fun k h1 h2 => hf.block k h1 (fun e => by injection e with e; omega)
  exact ⟨h.m0, h.bB, h.kf.tr (kf_fr hf), ht, fun q => (hk N (by omega) hN2).trans (h.bx (by omega)), fun q => own_same (h.ve (by omega)) fun g hg => hk g ((h.ve (by omega)).lt g hg).2 ((h.ve (by omega)).lt g hg).1, fun q => own_same (h.va (by omega)) fun g hg => hk g ((h.va (by omega)).lt g hg).2 ((h.va (by omega)).lt g hg).1⟩
theorem gb_tape {v : Value} {B n k : Nat} {e : TypeId} {xs : List Value} (ht : TapeOK b w) (hb : b < B) (ho : w.ownsRow B e k v n xs) (hg : w.grownBy w' v.ownBlock) : TapeOK b w' :=
  ht.keep fun j hj => hg.block j (Nat.lt_of_le_of_lt hj ht.lt) fun e => by have := (ho.lt j e.symm).1; omega
theorem StO.apE (h : StO b B N i vE vA gv rs acs W 1 w) (hg : w.grownBy w' vE.ownBlock) : StO b B N i vE vA gv rs acs W 2 w' := by
  have hz := h.kf.size
  have hN := (h.m0.lt N (mem_fpM.2 (.inl rfl))).2
  have hE := h.ve (by decide)
  have hA := h.va (by decide)
  exact ⟨h.m0, h.bB, h.kf.tr (kf_of_gb hg fun g hg => List.mem_cons_of_mem _ (mem_fpM.2 (.inr (.inl hg)))), gb_tape h.tp h.bB hE hg, fun q => (hg.block N (by omega) fun e => h.m0.neE e.symm).trans (h.bx (by omega)), fun q => absurd q (by decide), fun q => own_same hA fun g hgx => hg.block g (hA.lt g hgx).2 fun e => own_apart hE hA (by decide) g e.symm hgx⟩
theorem StO.apA (h : StO b B N i vE vA gv rs acs W 4 w) (hg : w.grownBy w' vA.ownBlock) : StO b B N i vE vA gv rs acs W 5 w' := by
  have hz := h.kf.size
  have hN := (h.m0.lt N (mem_fpM.2 (.inl rfl))).2
  have hA := h.va (by decide)
  exact ⟨h.m0, h.bB, h.kf.tr (kf_of_gb hg fun g hg => List.mem_cons_of_mem _ (mem_fpM.2 (.inr (.inr hg)))), gb_tape h.tp h.bB hA hg, fun q => (hg.block N (by omega) fun e => h.m0.neA e.symm).trans (h.bx (by omega)), fun q => absurd q (by decide), fun q => absurd q (by decide)⟩
theorem kf_setO {N : Nat} {j : Nat} {L : List Nat} {v : Value} (h : N ∈ L) : KeepF L [] w (w.setCell ⟨N, j, none⟩ v) :=
  ⟨rfl, rfl, rfl, by simp [World.setCell], fun k _ hn => Below.heap_setCell _ _ _ _ fun e => hn (e ▸ h), fun k hk => by cases hk⟩
theorem StO.set (h : StO b B N i vE vA gv rs acs W 5 w) : StO b B N i vE vA gv rs acs W 6 (w.setCell ⟨N, 0, none⟩ x) := by
  have hb := h.bB
  have hN := h.m0.bN
  exact ⟨h.m0, h.bB, h.kf.tr (kf_setO (List.mem_cons_of_mem _ (mem_fpM.2 (.inl rfl)))), h.tp.keep fun k hk => Below.heap_setCell _ _ _ _ (by show k ≠ N; omega), fun q => absurd q (by decide), fun q => absurd q (by decide), fun q => absurd q (by decide)⟩
theorem FEo.bel (h : FEo B k vE rv gv W c x w) (hb : Below w.heap.size w w') (h2 : 2 ≤ c) (h5 : c ≤ 5) : FEo B k vE rv gv W c' x w' := fun _ _ => by
  obtain ⟨q1, q2, q3⟩ := h h2 h5
  exact ⟨q1, own_same q2 fun g hg => hb.block g (q2.lt g hg).2, q3⟩
theorem FEo.nxt (h : FEo B k vE rv gv W c x w) (hf : Fr b w w') (hbB : b < B) (h2 : 2 ≤ c) (h5 : c ≤ 5) : FEo B k vE rv gv W c' x w' := fun _ _ => by
  obtain ⟨q1, q2, q3⟩ := h h2 h5
  exact ⟨q1, own_same q2 fun g hg => hf.block g (q2.lt g hg).2 (fun e => by injection e with e; have := (q2.lt g hg).1; omega), q3⟩
theorem FEo.apA (h : FEo B k vE rv gv W c x w) (hA : w.ownsRow B 4 1 vA i (rowF bC acs)) (hg : w.grownBy w' vA.ownBlock) (h2 : 2 ≤ c) (h5 : c ≤ 5) : FEo B k vE rv gv W c' x w' := fun _ _ => by
  obtain ⟨q1, q2, q3⟩ := h h2 h5
  exact ⟨q1, own_same q2 fun g hgx => hg.block g (q2.lt g hgx).2 fun e => own_apart q2 hA (by decide) g hgx e.symm, q3⟩
theorem FBo.set (h : FEo B k vE rv gv W 5 x w) (hN : w.heap[N]? = some (.cells #[vE, vA] 34 (0, 0))) : FBo B N k vE vA rv gv W 6 (w.setCell ⟨N, 0, none⟩ x) := fun _ => by
  obtain ⟨q1, q2, q3⟩ := h (by decide) (by decide)
  exact ⟨x, own_same q2 fun g hgx => Below.heap_setCell _ _ _ _ fun e => own_ne q2 hN (by decide) (by rw [hgx, e]), q3, by have := set_row3 hN 0 x; simpa using this⟩
theorem FAo.set (h : FAo B k vA acs W 5 x w) (hN : w.heap[N]? = some (.cells #[vE, vA] 34 (0, 0))) : FAo B k vA acs W 6 x (w.setCell ⟨N, 0, none⟩ y) := fun _ => by
  obtain ⟨q1, ⟨q, q2⟩, q3⟩ := h (by decide)
  exact ⟨q1, ⟨q, own_same q2 fun g hgx => Below.heap_setCell _ _ _ _ fun e => own_ne q2 hN (by decide) (by rw [hgx, e])⟩, q3⟩
/-- The whole of it. -/
theorem StO.done (h : StO b B N i vE vA gv rs acs W 6 w) {y : Value} {rv : Value} {p : List Ed} (hE : FBo B N (i + 1) vE vA rv gv W 6 w) (hA : FAo B (i + 1) vA acs W 6 y w) (hi : rs.length = i) (ha : acs.length = i)
    (hv : EdIn W rv p) (ho : outOf (fpM N vE vA) rv) (hl : ∀ g, rv.ownBlock = some g → B ≤ g ∧ g < W.heap.size) : ∃ x q, MkM B N [] x y (gv ++ [rv]) (rs ++ [p]) (acs ++ [q]) (w.setCell ⟨N, 1, none⟩ y) ∧ KeepF (b :: fpM N vE vA) [] W (w.setCell ⟨N, 1, none⟩ y) ∧ TapeOK b (w.setCell ⟨N, 1, none⟩ y) := by
  obtain ⟨x, q1, q2, q3⟩ := hE rfl
  obtain ⟨-, ⟨q, q4⟩, q5⟩ := hA (by decide)
  have hk := h.kf.tr (kf_setO (w := w) (j := 1) (v := y) (List.mem_cons_of_mem b (mem_fpM.2 (.inl rfl))))
  have hb := h.bB
  have hN := h.m0.bN
  refine ⟨x, q, h.m0.both h.bB hk ?_ ?_ ?_ q2 q5 hv ho hl, hk, h.tp.keep fun k hk => Below.heap_setCell _ _ _ _ (by show k ≠ N; omega)⟩
  · have := set_row3 q3 1 y; simpa using this
  · rw [hi]
    exact own_same q1 fun g hgx => Below.heap_setCell _ _ _ _ fun e => own_ne q1 q3 (by decide) (by rw [hgx, e])
  · show World.ownsRow _ _ _ _ _ _ _
    rw [rowF_app, List.length_append, ha, rowF_single]
    exact own_same q4 fun g hgx => Below.heap_setCell _ _ _ _ fun e => own_ne q4 q3 (by decide) (by rw [hgx, e])
end
end Go.Proofs.YtjhmipidmpmlmaaGreatDoor
namespace Go.Proofs.YtjhmipidmpmlmaaGreatDoor
set_option linter.unusedVariables false
set_option linter.unusedSimpArgs false
set_option maxRecDepth 100000
open Go.RowKit
/-- The machine under way, and the tape. -/
structure OwW (b : Nat) (w : World) (n i : Nat) (vE vA : Value) (gv : List Value) (rs : List (List Ed)) (acs : List Bool) (wr : World) : Prop where
  mm : MkM (w.heap.size + 1) (w.heap.size + 1) [] vE vA gv rs acs wr
  rl : rs.length = i
  al : acs.length = i
  rok : ∀ r ∈ rs, r.length ≤ 3 ∧ ∃ a, OwI n r a
  tp : TapeOK b wr
  fr : Fr b w wr
  res : wr.heap[w.heap.size]? = some (.cells #[.slice none 0 0, .slice none 0 0] 34 (0, 0))
theorem OwW.next {b : Nat} {w : World} {n i : Nat} {vE vA : Value} {gv : List Value} {rs : List (List Ed)} {acs : List Bool} {wr w' : World} (h : OwW b w n i vE vA gv rs acs wr) (hb : b < w.heap.size) (ht : TapeOK b w') (hf : Fr b wr w') : OwW b w n i vE vA gv rs acs w' := by
  have hs := h.fr.size
  have hr := (Array.getElem?_eq_some_iff.1 h.res).1
  refine ⟨h.mm.low (L := [b]) (L' := []) ⟨hf.os, hf.tape, hf.output, hf.size, fun k hk hn => hf.block k hk (fun e => hn (by injection e with e; simp [e])), fun k hk => by cases hk⟩ (fun k hk => by rw [List.mem_singleton] at hk; omega), h.rl, h.al, h.rok, ht, h.fr.trans hf, ?_⟩
  exact (hf.block _ hr (fun e => by injection e; omega)).trans h.res
theorem or_fr {b B n : Nat} {T : TypeId} {α : Type} {enc : α → List Value} {v : Value} {o : List α} {w w' : World} (h : OR T n enc B v o w) (hf : Fr b w w') (hb : b < B) : OR T n enc B v o w' :=
  OR.keep h fun g hg => hf.block g (World.ownsRow.lt h g hg).2 (fun e => by injection e with e; have := (World.ownsRow.lt h g hg).1; omega)
theorem fr_low {b : Nat} {w2 w5 w6 : World} (h : Fr b w2 w5) (h' : Below w2.heap.size w5 w6) : Fr b w2 w6 :=
  ⟨h'.os.trans h.os, h'.tape.trans h.tape, h'.output.trans h.output, Nat.le_trans h.size h'.size, fun k hk hne => (h'.block k hk).trans (h.block k hk hne)⟩
theorem fr_low' {b : Nat} {w w5 w6 : World} (h : Fr b w w5) (h' : Below w.heap.size w5 w6) : Fr b w w6 := fr_low h h'
theorem OwW.step {b : Nat} {w : World} {n i : Nat} {vE vA x y rv : Value} {gv : List Value} {rs : List (List Ed)} {acs : List Bool} {p : List Ed} {q : Bool} {a : Nat} {wr w' : World} (h : OwW b w n i vE vA gv rs acs wr) (hb : b < w.heap.size)
    (hm : MkM (w.heap.size + 1) (w.heap.size + 1) [] x y (gv ++ [rv]) (rs ++ [p]) (acs ++ [q]) w') (hk : KeepF (b :: fpM (w.heap.size + 1) vE vA) [] wr w') (ht : TapeOK b w') (hp : p.length ≤ 3) (hI : OwI n p a) : OwW b w n (i + 1) x y (gv ++ [rv]) (rs ++ [p]) (acs ++ [q]) w' := by
  have hs := h.fr.size
  have hr := (Array.getElem?_eq_some_iff.1 h.res).1
  have hlow : ∀ k, k < w.heap.size + 1 → k ≠ b → w'.heap[k]? = wr.heap[k]? := fun k hk1 hk2 => hk.blk k (by omega) fun hm => (List.mem_cons.1 hm).elim hk2 fun hm => by have := (h.mm.lt k hm).1; omega
  refine ⟨hm, by rw [List.length_append, h.rl]; rfl, by rw [List.length_append, h.al]; rfl, fun r hr => ?_, ht, ⟨hk.os.trans h.fr.os, hk.tape.trans h.fr.tape, hk.output.trans h.fr.output, Nat.le_trans hs hk.size, fun k hk1 hne => (hlow k (by omega) (fun e => hne (by rw [e]))).trans (h.fr.block k hk1 hne)⟩, (hlow _ (by omega) (by omega)).trans h.res⟩
  rcases List.mem_append.1 hr with h1 | h1
  · exact h.rok r h1
  · rw [List.mem_singleton] at h1; subst h1; exact ⟨hp, a, hI⟩
def OwPost (b : Nat) (w : World) (e : Ending) (w' : World) : Prop := ∃ rv m, e = .returned rv ∧ McUp w.heap.size w' rv m ∧ Vld m ∧ McSm m ∧ (1 ≤ m.ed.length ∧ m.ed.length ≤ 5) ∧ TapeOK b w' ∧ Fr b w w'
def factO15 (b B N i cE cA : Nat) (AE AK : Option Addr) (gv : List Value) (acs : List Bool) (rv : Value) (W : World) : Nat → Nat → Value → World → Prop
  | c, 0, x, w => x = .pointer (some ⟨N, 0, none⟩)
  | c, 1, x, w => x = .slice AE i cE
  | c, 2, x, w => x = rv
  | c, 3, x, w => c = 1 → ∃ g, x = .slice (some ⟨g, 0, none⟩) 1 1 ∧ g < w.heap.size ∧ w.cell? ⟨g, 0, none⟩ = some rv
  | c, 4, x, w => FEo B (i + 1) (.slice AE i cE) rv gv W c x w
  | c, 5, x, w => x = .pointer (some ⟨N, 1, none⟩)
  | c, 6, x, w => x = .slice AK i cA
  | c, 7, x, w => x = .pointer (some ⟨b, 0, none⟩)
  | c, 8, x, w => ∃ r, x = .int .i64 r
  | c, 9, x, w => ∃ q, x = .bool q
  | c, 10, x, w => c = 4 → ∃ g q, x = .slice (some ⟨g, 0, none⟩) 1 1 ∧ g < w.heap.size ∧ w.cell? ⟨g, 0, none⟩ = some (.bool q)
  | c, 11, x, w => FAo B (i + 1) (.slice AK i cA) acs W c x w
  | c, 12, x, w => x = .pointer (some ⟨N, 0, none⟩)
  | c, 13, x, w => FBo B N (i + 1) (.slice AE i cE) (.slice AK i cA) rv gv W c w
  | c, 14, x, w => x = .pointer (some ⟨N, 1, none⟩)
  | _, _, _, _ => True
set_option maxHeartbeats 4000000 in
theorem own_any (b : Nat) (w : World) (ht : TapeOK b w) : Calls Tryz.prog 19 #[.pointer (some ⟨b, 0, none⟩)] w (OwPost b w) := by
  have hbl := ht.lt
  obtain ⟨ie, hie, hke0, hke1, hke2⟩ := info_parts info_ed
  obtain ⟨is, his, he0, he1, he2⟩ := info_parts info_es
  obtain ⟨ib, hib, hb0', hb1, hb2⟩ := info_parts info_bool
  have HT := Lib.hid ht
  clear ht
  go_enter Tryz.func19, Tryz.ntmps19
  go_wp2_with fail
  refine calls_named fun W0 hW0 => ?_
  have hb0 : Below w.heap.size w W0 := by rw [hW0]; exact ((Below.refl _ _).alloc (Nat.le_refl _) _).alloc (by simp) _
  have hr0 : W0.heap[w.heap.size]? = some (.cells #[.slice none 0 0, .slice none 0 0] 34 (0, 0)) := by rw [hW0, old_alloc _ _ _ (by simp)]; exact heap_alloc_new w _
  have hr1 : W0.heap[w.heap.size + 1]? = some (.cells #[.slice none 0 0, .slice none 0 0] 34 (0, 0)) := by rw [hW0]; simpa using heap_alloc_new (w.alloc (.cells #[.slice none 0 0, .slice none 0 0] 34)) (.cells #[.slice none 0 0, .slice none 0 0] 34)
  have hO0 : ∀ n, OwW b w n 0 (.slice none 0 0) (.slice none 0 0) [] [] [] W0 := fun n => ⟨⟨hr1, by omega, World.ownsRow_nil _ _ _ _, fun i hi => absurd hi (Nat.not_lt_zero _), OR.nil_ _ _ _, fun k hk h => (by cases h)⟩, rfl, rfl, fun r hr => (by cases hr), HT.out.below hb0, Fr.of_below hb0, hr0⟩
  have HO0 := Lib.hid hO0
  clear hW0 hb0 hr0 hr1 hO0
  refine (between_any b 1 5 W0 (by decide) (by decide) (by decide) (HO0.out 0).tp).mono ?_
  rintro e w1 ⟨r, rfl, hr1, hr5, ht1, hf1⟩
  obtain ⟨n, rfl⟩ : ∃ n : Nat, r = (n : Int) := ⟨r.toNat, by omega⟩
  have HO1 := Lib.hid ((HO0.out n).next hbl ht1 hf1)
  have hn1 : 1 ≤ n := by omega
  have hn5 : n ≤ 5 := by omega
  clear ht1 hf1 HO0 hr1 hr5
  go_wp2_with fail
  go_loopw [5] (fun v wr => ∃ i : Nat, i ≤ n ∧ v = .int .i64 (i : Int) ∧ Hid (∃ vE vA gv rs acs, OwW b w n i vE vA gv rs acs wr)) (fun v _ => n - (intOf v).toNat)
  case atStart => exact ⟨0, by omega, rfl, _, _, _, _, _, HO1.out⟩
  case round =>
    obtain ⟨i, hi, rfl, HO⟩ := hrel
    by_cases hlt : i < n
    · have hd : decide ((i : Int) < (n : Int)) = true := decide_eq_true (by omega)
      have hdn : decide (i < n) = true := decide_eq_true hlt
      obtain ⟨vE, vA, gv, rs, acs, hO⟩ := HO.out
      have HOW := Lib.hid hO
      clear hO
      go_wp2_with fail
      refine (next_any b 4 wr (by decide) (by decide) HOW.out.tp).mono ?_
      rintro e w2 ⟨r, rfl, hr1, hr2, ht2, hf2⟩
      obtain ⟨c, rfl⟩ : ∃ c : Nat, r = (c : Int) := ⟨r.toNat, by omega⟩
      have HO2 := Lib.hid (HOW.out.next hbl ht2 hf2)
      have hc3 : c ≤ 3 := by omega
      have hbl2 : b < w2.heap.size := ht2.lt
      clear ht2 hf2 hr1 hr2
      go_wp2_with fail
      go_loopg [6, 7, 8] c (fun q s6 s7 s8 wr => ∃ (a : Nat) (p : List Ed), s7 = .int .i64 (a : Int) ∧ s8 = .int .i64 (q : Int) ∧ p.length + q ≤ 3 ∧ a ≤ 256 ∧ Hid (OwI n p a) ∧ Hid (Fr b w2 wr ∧ TapeOK b wr ∧ OR 58 3 edC w2.heap.size s6 p wr))
      case atStart => exact ⟨0, [], rfl, rfl, by simp; omega, by omega, OwI.start n, Fr.refl _ _, HO2.out.tp, OR.nil_ _ _ _⟩
      case round =>
        obtain ⟨a, p, rfl, rfl, hpq, ha, HI, HW⟩ := hrel
        obtain ⟨A6, c6, rfl⟩ : ∃ A c, u6 = .slice A p.length c := by
          obtain ⟨A, c, e, -⟩ := own_form (show wr.ownsRow _ _ _ _ _ _ from HW.out.2.2)
          exact ⟨A, c, e⟩
        cases gk with
        | zero =>
          have hd0 : decide ((0 : Int) < 0) = false := by decide
          obtain ⟨np, hnp⟩ : ∃ k, p.length = k := ⟨_, rfl⟩
          rw [hnp] at hpq ⊢
          have HP := Lib.hid hnp
          have hOr := HO2.out.next hbl HW.out.2.1 HW.out.1
          obtain ⟨AE, cE, eE, -, -⟩ := own_form hOr.mm.own
          rw [hOr.rl] at eE
          obtain ⟨AK, cA, eA, -, -⟩ := own_form (show wr.ownsRow _ _ _ _ _ _ from hOr.mm.acc)
          rw [hOr.al] at eA
          subst eE eA
          have hN := hOr.mm.hN
          obtain ⟨xn0, xn1⟩ : wr.cell? ⟨w.heap.size + 1, 0, none⟩ = some (.slice AE i cE) ∧ wr.cell? ⟨w.heap.size + 1, 1, none⟩ = some (.slice AK i cA) := by constructor <;> (rw [cell_of_row _ _ _ _ _ _ hN]; rfl)
          have lN : w.heap.size + 1 < wr.heap.size := (Array.getElem?_eq_some_iff.1 hN).1
          have hbr : Below wr.heap.size wr wr.drew := (Below.refl _ _).drew
          have hS0 : StO b (w.heap.size + 1) (w.heap.size + 1) i (.slice AE i cE) (.slice AK i cA) gv rs acs wr 0 wr.drew :=
            StO.bel (c := 0) (w := wr) ⟨hOr.mm, by omega, kf_bel (Below.refl _ _), hOr.tp, fun _ => rfl, fun _ => by have := hOr.mm.own; rwa [hOr.rl] at this, fun _ => by have : wr.ownsRow _ _ _ _ _ _ := hOr.mm.acc; rwa [hOr.al] at this⟩ hbr (Nat.le_refl _)
          have HNR := Lib.hid hN
          have HOr := Lib.hid hOr
          have hn5' : i < 5 := by omega
          clear hN hOr hnp hbr
          go_wp2_with fail
          refine wp_region_chain 15 [3, 4, 8, 10, 11, 13] (factO15 b (w.heap.size + 1) (w.heap.size + 1) i cE cA AE AK gv acs (.slice A6 np c6) wr) (fun c w' => StO b (w.heap.size + 1) (w.heap.size + 1) i (.slice AE i cE) (.slice AK i cA) gv rs acs wr c w') (by kernel_rfl) (by kernel_rfl) (by kernel_rfl) (by kernel_rfl) (by kernel_rfl) (by kernel_rfl) (by decide) hS0 ?_ ?_
          · simp only [List.take_succ_cons, List.take_zero]
            refine HSteps.pure (by decide) ?_ (HSteps.pure (by decide) ?_ (HSteps.pure (by decide) ?_ (HSteps.eff 0 rfl ?_ (HSteps.eff 1 rfl ?_ (HSteps.pure (by decide) ?_ (HSteps.pure (by decide) ?_ (HSteps.pure (by decide) ?_ (HSteps.eff 2 rfl ?_ (HSteps.pure (by decide) ?_ (HSteps.eff 3 rfl ?_ (HSteps.eff 4 rfl ?_ (HSteps.pure (by decide) ?_ (HSteps.eff 5 rfl ?_ (HSteps.pure (by decide) ?_ (HSteps.nil)))))))))))))))
            · intro v wz c hlo hS hE K hK
              simp only [putAll, Act.put, List.setIfInBounds_toArray, List.set_cons_zero, List.set_cons_succ, Nat.zero_add, Nat.reduceAdd, List.take_succ_cons, List.take_zero] at hK ⊢
              have HX := Lib.hid hS
              clear hS hE hlo
              go_wp2_with fail
              exact hK.out _ rfl
            · intro v wz c hlo hS hE K hK
              simp only [putAll, Act.put, List.setIfInBounds_toArray, List.set_cons_zero, List.set_cons_succ, Nat.zero_add, Nat.reduceAdd, List.take_succ_cons, List.take_zero] at hK ⊢
              have e0 : v 0 = _ := hE.1 rfl
              rw [e0] at hK ⊢
              have hc1 := hlo 1 (by kernel_rfl)
              have c1 := (World.cell?_of_block (a := ⟨w.heap.size + 1, 0, none⟩) (hS.bx (by omega))).trans xn0
              have l1 : w.heap.size + 1 < wz.heap.size := by have := hS.kf.size; omega
              clear hc1
              have HX := Lib.hid hS
              clear hS hE hlo
              go_wp2_with fail
              exact hK.out _ rfl
            · intro v wz c hlo hS hE K hK
              simp only [putAll, Act.put, List.setIfInBounds_toArray, List.set_cons_zero, List.set_cons_succ, Nat.zero_add, Nat.reduceAdd, List.take_succ_cons, List.take_zero] at hK ⊢
              have HX := Lib.hid hS
              clear hS hE hlo
              go_wp2_with fail
              exact hK.out _ rfl
            · intro v wz hS hE K hK
              simp only [putAll, Act.put, List.setIfInBounds_toArray, List.set_cons_zero, List.set_cons_succ, Nat.zero_add, Nat.reduceAdd, List.take_succ_cons, List.take_zero] at hK ⊢
              have e2 : v 2 = _ := hE.1 rfl
              rw [e2] at hK ⊢
              have HX := Lib.hid hS
              clear hS hE
              go_wp2_with fail
              have hbz : Below wz.heap.size wz (wz.alloc (.cells #[.slice A6 np c6] 53)) := (Below.refl _ _).alloc (Nat.le_refl _) _
              refine hK.out _ _ (fun j z hj h => ?_) (HX.out.bel hbz (by decide)) (fun _ => ⟨wz.heap.size, rfl, by simp, by go_simp⟩)
              match j with
              | 0 | 1 | 2 | 5 | 6 | 7 | 8 | 9 | 12 | 14 => exact h
              | 4 => exact fun h1 => by omega
              | 10 => exact fun hc => by omega
              | 11 => exact fun h1 => by omega
              | 13 => exact fun hc => by omega
              | 3 => exact absurd rfl hj
              | _ + 15 => exact trivial
            · intro v wz hS hE K hK
              simp only [putAll, Act.put, List.setIfInBounds_toArray, List.set_cons_zero, List.set_cons_succ, Nat.zero_add, Nat.reduceAdd, List.take_succ_cons, List.take_zero] at hK ⊢
              have e1 : v 1 = _ := hE.1 rfl
              rw [e1] at hK ⊢
              have E3 := hE.2.1 rfl
              obtain ⟨g, e3, hgl, hg0⟩ := E3 rfl
              rw [e3] at hK ⊢
              have hown := hS.ve (by decide)
              have hcell : ∀ j u, ([.slice A6 np c6] : List Value)[j]? = some u → wz.cell? ((⟨g, 0, none⟩ : Addr).add j) = some u := fun j u hj => by
                match j, hj with
                | 0, hj => simp at hj; rw [← hj, Addr.add_lit]; exact hg0
              have hzz := hS.kf.size
              have HX := Lib.hid hS
              clear hS hE E3
              go_wp2_with (at_builtin; refine appI_at rfl _ _ 31 rfl (w.heap.size + 1) 53 is (.slice none 0 0) 1 24 Tryz.underlying31 his he0 he1 he2 rfl (by decide) _ i gv rfl hown ⟨g, 0, none⟩ 1 1 [.slice A6 np c6] rfl rfl hcell (by intro u hu; simp at hu; subst hu; rfl) (by unfold maxLen; omega) (by omega) (by omega) ?_)
              intro v' wx hown1 hg1 hfr
              obtain ⟨A', c', rfl, -, -⟩ := own_form hown1
              have hfr2 : Fresh (.slice A' (i + 1) c') (.slice AE i cE) wr.heap.size := hfr.imp id fun ⟨g, h1, h2⟩ => ⟨g, h1, Nat.le_trans hzz h2⟩
              refine hK.out _ _ (fun j z hj h => ?_) (HX.out.apE hg1) (fun _ _ => ⟨⟨A', c', rfl⟩, hown1, hfr2⟩)
              match j with
              | 0 | 1 | 2 | 5 | 6 | 7 | 8 | 9 | 12 | 14 => exact h
              | 3 => exact fun hc => by omega
              | 10 => exact fun hc => by omega
              | 11 => exact fun h1 => by omega
              | 13 => exact fun hc => by omega
              | 4 => exact absurd rfl hj
              | _ + 15 => exact trivial
            · intro v wz c hlo hS hE K hK
              simp only [putAll, Act.put, List.setIfInBounds_toArray, List.set_cons_zero, List.set_cons_succ, Nat.zero_add, Nat.reduceAdd, List.take_succ_cons, List.take_zero] at hK ⊢
              have HX := Lib.hid hS
              clear hS hE hlo
              go_wp2_with fail
              exact hK.out _ rfl
            · intro v wz c hlo hS hE K hK
              simp only [putAll, Act.put, List.setIfInBounds_toArray, List.set_cons_zero, List.set_cons_succ, Nat.zero_add, Nat.reduceAdd, List.take_succ_cons, List.take_zero] at hK ⊢
              have e5 : v 5 = _ := hE.1 rfl
              rw [e5] at hK ⊢
              have hc4 := hlo 4 (by kernel_rfl)
              have c1 := (World.cell?_of_block (a := ⟨w.heap.size + 1, 1, none⟩) (hS.bx (by omega))).trans xn1
              have l1 : w.heap.size + 1 < wz.heap.size := by have := hS.kf.size; omega
              clear hc4
              have HX := Lib.hid hS
              clear hS hE hlo
              go_wp2_with fail
              exact hK.out _ rfl
            · intro v wz c hlo hS hE K hK
              simp only [putAll, Act.put, List.setIfInBounds_toArray, List.set_cons_zero, List.set_cons_succ, Nat.zero_add, Nat.reduceAdd, List.take_succ_cons, List.take_zero] at hK ⊢
              have HX := Lib.hid hS
              clear hS hE hlo
              go_wp2_with fail
              exact hK.out _ rfl
            · intro v wz hS hE K hK
              simp only [putAll, Act.put, List.setIfInBounds_toArray, List.set_cons_zero, List.set_cons_succ, Nat.zero_add, Nat.reduceAdd, List.take_succ_cons, List.take_zero] at hK ⊢
              have e7 : v 7 = _ := hE.1 rfl
              rw [e7] at hK ⊢
              have HX := Lib.hid hS
              clear hS hE
              go_wp2_with fail
              refine (next_any b 3 wz (by decide) (by decide) HX.out.tp).mono ?_
              rintro e wy ⟨r, rfl, hr0, hr1, hty, hfy⟩
              have HY := Lib.hid (And.intro hty hfy)
              clear hty hfy hr0 hr1
              go_wp2_with fail
              refine hK.out _ _ (fun j z hj h => ?_) (HX.out.nxt HY.out.2 HY.out.1 (by decide)) ⟨r, rfl⟩
              match j with
              | 0 | 1 | 2 | 5 | 6 | 7 | 9 | 12 | 14 => exact h
              | 3 => exact fun hc => by omega
              | 4 => exact FEo.nxt h HY.out.2 HX.out.bB (by decide) (by decide)
              | 10 => exact fun hc => by omega
              | 11 => exact fun h1 => by omega
              | 13 => exact fun hc => by omega
              | 8 => exact absurd rfl hj
              | _ + 15 => exact trivial
            · intro v wz c hlo hS hE K hK
              simp only [putAll, Act.put, List.setIfInBounds_toArray, List.set_cons_zero, List.set_cons_succ, Nat.zero_add, Nat.reduceAdd, List.take_succ_cons, List.take_zero] at hK ⊢
              have E8 := hE.1 rfl
              obtain ⟨r, e8⟩ := E8
              rw [e8] at hK ⊢
              have HX := Lib.hid hS
              clear hS hE hlo
              go_wp2_with fail
              exact hK.out _ ⟨_, rfl⟩
            · intro v wz hS hE K hK
              simp only [putAll, Act.put, List.setIfInBounds_toArray, List.set_cons_zero, List.set_cons_succ, Nat.zero_add, Nat.reduceAdd, List.take_succ_cons, List.take_zero] at hK ⊢
              have E9 := hE.1 rfl
              obtain ⟨q, e9⟩ := E9
              rw [e9] at hK ⊢
              have HX := Lib.hid hS
              clear hS hE
              go_wp2_with fail
              have hbz : Below wz.heap.size wz (wz.alloc (.cells #[.bool q] 4)) := (Below.refl _ _).alloc (Nat.le_refl _) _
              refine hK.out _ _ (fun j z hj h => ?_) (HX.out.bel hbz (by decide)) (fun _ => ⟨wz.heap.size, q, rfl, by simp, by go_simp⟩)
              match j with
              | 0 | 1 | 2 | 5 | 6 | 7 | 8 | 9 | 12 | 14 => exact h
              | 3 => exact fun hc => by omega
              | 4 => exact FEo.bel h hbz (by decide) (by decide)
              | 11 => exact fun h1 => by omega
              | 13 => exact fun hc => by omega
              | 10 => exact absurd rfl hj
              | _ + 15 => exact trivial
            · intro v wz hS hE K hK
              simp only [putAll, Act.put, List.setIfInBounds_toArray, List.set_cons_zero, List.set_cons_succ, Nat.zero_add, Nat.reduceAdd, List.take_succ_cons, List.take_zero] at hK ⊢
              have e6 : v 6 = _ := hE.1 rfl
              rw [e6] at hK ⊢
              have E10 := hE.2.1 rfl
              obtain ⟨g, q, e10, hgl, hg0⟩ := E10 rfl
              rw [e10] at hK ⊢
              have hown := hS.va (by decide)
              have hcell : ∀ j u, ([.bool q] : List Value)[j]? = some u → wz.cell? ((⟨g, 0, none⟩ : Addr).add j) = some u := fun j u hj => by
                match j, hj with
                | 0, hj => simp at hj; rw [← hj, Addr.add_lit]; exact hg0
              have hzz := hS.kf.size
              have HX := Lib.hid hS
              have HOA := Lib.hid hown
              clear hS hE E10
              go_wp2_with (at_builtin; refine appI_at rfl _ _ 32 rfl (w.heap.size + 1) 4 ib (.bool false) 1 1 Tryz.underlying32 hib hb0' hb1 hb2 rfl (by decide) _ i (rowF bC acs) rfl hown ⟨g, 0, none⟩ 1 1 [.bool q] rfl rfl hcell (by intro u hu; simp at hu; subst hu; rfl) (by unfold maxLen; omega) (by omega) (by omega) ?_)
              intro v' wx hown1 hg1 hfr
              obtain ⟨A', c', rfl, -, -⟩ := own_form hown1
              have hfr2 : Fresh (.slice A' (i + 1) c') (.slice AK i cA) wr.heap.size := hfr.imp id fun ⟨g, h1, h2⟩ => ⟨g, h1, Nat.le_trans hzz h2⟩
              refine hK.out _ _ (fun j z hj h => ?_) (HX.out.apA hg1) (fun _ => ⟨⟨A', c', rfl⟩, ⟨q, hown1⟩, hfr2⟩)
              match j with
              | 0 | 1 | 2 | 5 | 6 | 7 | 8 | 9 | 12 | 14 => exact h
              | 3 => exact fun hc => by omega
              | 4 => exact FEo.apA h HOA.out hg1 (by decide) (by decide)
              | 10 => exact fun hc => by omega
              | 13 => exact fun hc => by omega
              | 11 => exact absurd rfl hj
              | _ + 15 => exact trivial
            · intro v wz c hlo hS hE K hK
              simp only [putAll, Act.put, List.setIfInBounds_toArray, List.set_cons_zero, List.set_cons_succ, Nat.zero_add, Nat.reduceAdd, List.take_succ_cons, List.take_zero] at hK ⊢
              have HX := Lib.hid hS
              clear hS hE hlo
              go_wp2_with fail
              exact hK.out _ rfl
            · intro v wz hS hE K hK
              simp only [putAll, Act.put, List.setIfInBounds_toArray, List.set_cons_zero, List.set_cons_succ, Nat.zero_add, Nat.reduceAdd, List.take_succ_cons, List.take_zero] at hK ⊢
              have e12 : v 12 = _ := hE.1 rfl
              rw [e12] at hK ⊢
              have E4 := hE.2.1 rfl
              obtain ⟨⟨A4, c4, e4⟩, o4, f4⟩ := id E4 (by decide) (by decide)
              rw [e4] at hK E4 ⊢
              have hrow := (hS.bx (by decide)).trans HNR.out
              have cz : wz.cell? ⟨w.heap.size + 1, 0, none⟩ = some (.slice AE i cE) := by rw [cell_of_row _ _ _ _ _ _ hrow]; rfl
              have fz : wz.frozen? ⟨w.heap.size + 1, 0, none⟩ = false := by simp [World.frozen?, hrow]
              have HX := Lib.hid hS
              have HO := Lib.hid (And.intro E4 hrow)
              clear hS hE o4 f4 hrow e4 E4
              go_wp2_with fail
              refine hK.out undef _ (fun j z hj h => ?_) HX.out.set (FBo.set HO.out.1 HO.out.2)
              match j with
              | 0 | 1 | 2 | 5 | 6 | 7 | 8 | 9 | 12 | 14 => exact h
              | 3 => exact fun hc => by omega
              | 4 => exact fun _ h1 => by omega
              | 10 => exact fun hc => by omega
              | 11 => exact FAo.set h HO.out.2
              | 13 => exact absurd rfl hj
              | _ + 15 => exact trivial
            · intro v wz c hlo hS hE K hK
              simp only [putAll, Act.put, List.setIfInBounds_toArray, List.set_cons_zero, List.set_cons_succ, Nat.zero_add, Nat.reduceAdd, List.take_succ_cons, List.take_zero] at hK ⊢
              have HX := Lib.hid hS
              clear hS hE hlo
              go_wp2_with fail
              exact hK.out _ rfl
          · intro v wz hS hF
            have e0 : v 0 = _ := hF 0 (by decide)
            have e1 : v 1 = _ := hF 1 (by decide)
            have e2 : v 2 = _ := hF 2 (by decide)
            have e5 : v 5 = _ := hF 5 (by decide)
            have e6 : v 6 = _ := hF 6 (by decide)
            have e7 : v 7 = _ := hF 7 (by decide)
            have e12 : v 12 = _ := hF 12 (by decide)
            have e14 : v 14 = _ := hF 14 (by decide)
            have E3 := hF 3 (by decide)
            have E4 := hF 4 (by decide)
            have E8 := hF 8 (by decide)
            have E9 := hF 9 (by decide)
            have E10 := hF 10 (by decide)
            have E11 := hF 11 (by decide)
            have E13 := hF 13 (by decide)
            simp only [putAll, Act.put, List.setIfInBounds_toArray, List.set_cons_zero, List.set_cons_succ, Nat.zero_add, Nat.reduceAdd, List.take_succ_cons, List.take_zero, List.drop_succ_cons, List.drop_zero, e0, e1, e2, e5, e6, e7, e12, e14]
            clear hF e0 e1 e2 e5 e6 e7 e12 e14
            have h13 := E13
            have h11 := E11
            obtain ⟨⟨A8, c8, e8⟩, -, -⟩ := id E11 (by decide)
            rw [e8] at h11 ⊢
            obtain ⟨x4, -, -, hbx⟩ := id E13 rfl
            have cz1 : wz.cell? ⟨w.heap.size + 1, 1, none⟩ = some (.slice AK i cA) := by rw [cell_of_row _ _ _ _ _ _ hbx]; rfl
            have fz1 : wz.frozen? ⟨w.heap.size + 1, 1, none⟩ = false := by simp [World.frozen?, hbx]
            have lNz : w.heap.size + 1 < wz.heap.size := (Array.getElem?_eq_some_iff.1 hbx).1
            have hrow : OR 58 3 edC w2.heap.size (.slice A6 np c6) p wr := by have := HW.out.2.2; rw [HP.out] at this; exact this
            obtain ⟨x5, q, hmm, hkk, htt⟩ := hS.done h13 h11 HOr.out.rl HOr.out.al (EdIn.of_OR hrow) (fun g hg hm => by have h1 := (World.ownsRow.lt hrow g hg).1; have h2 := (HO2.out.mm.lt g hm).2; omega) (fun g hg => by have h1 := World.ownsRow.lt hrow g hg; have := (Array.getElem?_eq_some_iff.1 HO2.out.mm.hN).1; omega)
            have HST := Lib.hid (HOr.out.step hbl hmm hkk htt (show p.length ≤ 3 by have := HP.out; omega) HI.out)
            clear hS E3 E4 E8 E9 E10 E11 E13 h13 h11 e8 hbx hrow hmm hkk htt
            go_wp2_with fail
            go_roundw
            case measure => simp [intOf]; omega
            case rel => exact ⟨i + 1, by omega, by go_num, _, _, _, _, _, HST.out⟩
        | succ q =>
          have hd0 : decide ((0 : Int) < ((q + 1 : Nat) : Int)) = true := decide_eq_true (by omega)
          have hd0n : decide (0 < q + 1) = true := decide_eq_true (by omega)
          by_cases h250 : a < 250
          · have hd1 : decide ((a : Int) < 250) = true := decide_eq_true (by omega)
            have hd1n : decide (a < 250) = true := decide_eq_true h250
            go_wp2_with fail
            refine (next_any b 60 wr (by decide) (by decide) HW.out.2.1).mono ?_
            rintro e w3 ⟨r, rfl, hr1, hr2, ht3, hf3⟩
            obtain ⟨x1, rfl⟩ : ∃ c : Nat, r = (c : Int) := ⟨r.toNat, by omega⟩
            have HW3 := Lib.hid (And.intro (HW.out.1.trans hf3) (And.intro ht3 (or_fr HW.out.2.2 hf3 hbl2)))
            have hx1 : x1 < 60 := by omega
            have hw1 : IntKind.i64.wrap ((a : Int) + (x1 : Int)) = ((a + x1 : Nat) : Int) := by rw [IntWalk.i64_in _ (by omega)]; omega
            clear ht3 hf3 hr1 hr2
            go_wp2_with fail
            refine (next_any b 60 w3 (by decide) (by decide) HW3.out.2.1).mono ?_
            rintro e w4 ⟨r, rfl, hr1, hr2, ht4, hf4⟩
            obtain ⟨x2, rfl⟩ : ∃ c : Nat, r = (c : Int) := ⟨r.toNat, by omega⟩
            have HW4 := Lib.hid (And.intro (HW3.out.1.trans hf4) (And.intro ht4 (or_fr HW3.out.2.2 hf4 hbl2)))
            have hx2 : x2 < 60 := by omega
            have hw2 : IntKind.i64.wrap (((a + x1 : Nat) : Int) + (x2 : Int)) = ((a + x1 + x2 : Nat) : Int) := by rw [IntWalk.i64_in _ (by omega)]; omega
            obtain ⟨lo, hlo⟩ : ∃ x, min 255 (a + x1) = x := ⟨_, rfl⟩
            obtain ⟨hi', hhi⟩ : ∃ x, min 255 (a + x1 + x2) = x := ⟨_, rfl⟩
            have hm1 : min (255 : Int) ((a : Int) + (x1 : Int)) = (lo : Int) := by omega
            have hm2 : min (255 : Int) ((a : Int) + (x1 : Int) + (x2 : Int)) = (hi' : Int) := by omega
            have HM := Lib.hid (And.intro hlo hhi)
            have hh256 : hi' < 256 := by omega
            clear ht4 hf4 hr1 hr2 hlo hhi
            go_wp2_with fail
            refine (next_any b (n : Int) w4 (by omega) (by omega) HW4.out.2.1).mono ?_
            rintro e w5 ⟨r, rfl, hr1, hr2, ht5, hf5⟩
            obtain ⟨t, rfl⟩ : ∃ c : Nat, r = (c : Int) := ⟨r.toNat, by omega⟩
            have HW5 := Lib.hid (And.intro (HW4.out.1.trans hf5) (And.intro ht5 (or_fr HW4.out.2.2 hf5 hbl2)))
            have hI2 := HI.out.step h250 hx1 hx2 (t := t) (by omega)
            rw [HM.out.1, HM.out.2] at hI2
            have HI2 := Lib.hid hI2
            have hown := HW5.out.2.2
            have hws : w2.heap.size ≤ w5.heap.size := HW5.out.1.size
            clear ht5 hf5 hr1 hr2 hI2
            go_wp2_with (at_builtin; refine app_one edC_E Tryz.underlying53 hie hke0 hke1 hke2 rfl (by decide) _ _ _ _ p ⟨lo, hi', t⟩ _ w2.heap.size rfl rfl rfl rfl rfl hown (by omega) hws ?_; intro v6 w6 hown6 hb6)
            have HW6 := Lib.hid (And.intro (fr_low HW5.out.1 hb6) (And.intro (HW5.out.2.1.below' hb6 hbl2) hown6))
            clear hown hown6 hb6
            go_wp2_with fail
            go_roundg q
            case measure => omega
            case rel => exact ⟨hi' + 1, p ++ [⟨lo, hi', t⟩], by go_num, by go_num, by simp; omega, by omega, HI2, HW6⟩
          · have hd1 : decide ((a : Int) < 250) = false := decide_eq_false (by omega)
            have hd1n : decide (a < 250) = false := decide_eq_false h250
            obtain ⟨np, hnp⟩ : ∃ k, p.length = k := ⟨_, rfl⟩
            rw [hnp] at hpq ⊢
            have HP := Lib.hid hnp
            have hOr := HO2.out.next hbl HW.out.2.1 HW.out.1
            obtain ⟨AE, cE, eE, -, -⟩ := own_form hOr.mm.own
            rw [hOr.rl] at eE
            obtain ⟨AK, cA, eA, -, -⟩ := own_form (show wr.ownsRow _ _ _ _ _ _ from hOr.mm.acc)
            rw [hOr.al] at eA
            subst eE eA
            have hN := hOr.mm.hN
            obtain ⟨xn0, xn1⟩ : wr.cell? ⟨w.heap.size + 1, 0, none⟩ = some (.slice AE i cE) ∧ wr.cell? ⟨w.heap.size + 1, 1, none⟩ = some (.slice AK i cA) := by constructor <;> (rw [cell_of_row _ _ _ _ _ _ hN]; rfl)
            have lN : w.heap.size + 1 < wr.heap.size := (Array.getElem?_eq_some_iff.1 hN).1
            have hbr : Below wr.heap.size wr wr.drew := (Below.refl _ _).drew
            have hS0 : StO b (w.heap.size + 1) (w.heap.size + 1) i (.slice AE i cE) (.slice AK i cA) gv rs acs wr 0 wr.drew :=
              StO.bel (c := 0) (w := wr) ⟨hOr.mm, by omega, kf_bel (Below.refl _ _), hOr.tp, fun _ => rfl, fun _ => by have := hOr.mm.own; rwa [hOr.rl] at this, fun _ => by have : wr.ownsRow _ _ _ _ _ _ := hOr.mm.acc; rwa [hOr.al] at this⟩ hbr (Nat.le_refl _)
            have HNR := Lib.hid hN
            have HOr := Lib.hid hOr
            have hn5' : i < 5 := by omega
            clear hN hOr hnp hbr
            go_wp2_with fail
            refine wp_region_chain 15 [3, 4, 8, 10, 11, 13] (factO15 b (w.heap.size + 1) (w.heap.size + 1) i cE cA AE AK gv acs (.slice A6 np c6) wr) (fun c w' => StO b (w.heap.size + 1) (w.heap.size + 1) i (.slice AE i cE) (.slice AK i cA) gv rs acs wr c w') (by kernel_rfl) (by kernel_rfl) (by kernel_rfl) (by kernel_rfl) (by kernel_rfl) (by kernel_rfl) (by decide) hS0 ?_ ?_
            · simp only [List.take_succ_cons, List.take_zero]
              refine HSteps.pure (by decide) ?_ (HSteps.pure (by decide) ?_ (HSteps.pure (by decide) ?_ (HSteps.eff 0 rfl ?_ (HSteps.eff 1 rfl ?_ (HSteps.pure (by decide) ?_ (HSteps.pure (by decide) ?_ (HSteps.pure (by decide) ?_ (HSteps.eff 2 rfl ?_ (HSteps.pure (by decide) ?_ (HSteps.eff 3 rfl ?_ (HSteps.eff 4 rfl ?_ (HSteps.pure (by decide) ?_ (HSteps.eff 5 rfl ?_ (HSteps.pure (by decide) ?_ (HSteps.nil)))))))))))))))
              · intro v wz c hlo hS hE K hK
                simp only [putAll, Act.put, List.setIfInBounds_toArray, List.set_cons_zero, List.set_cons_succ, Nat.zero_add, Nat.reduceAdd, List.take_succ_cons, List.take_zero] at hK ⊢
                have HX := Lib.hid hS
                clear hS hE hlo
                go_wp2_with fail
                exact hK.out _ rfl
              · intro v wz c hlo hS hE K hK
                simp only [putAll, Act.put, List.setIfInBounds_toArray, List.set_cons_zero, List.set_cons_succ, Nat.zero_add, Nat.reduceAdd, List.take_succ_cons, List.take_zero] at hK ⊢
                have e0 : v 0 = _ := hE.1 rfl
                rw [e0] at hK ⊢
                have hc1 := hlo 1 (by kernel_rfl)
                have c1 := (World.cell?_of_block (a := ⟨w.heap.size + 1, 0, none⟩) (hS.bx (by omega))).trans xn0
                have l1 : w.heap.size + 1 < wz.heap.size := by have := hS.kf.size; omega
                clear hc1
                have HX := Lib.hid hS
                clear hS hE hlo
                go_wp2_with fail
                exact hK.out _ rfl
              · intro v wz c hlo hS hE K hK
                simp only [putAll, Act.put, List.setIfInBounds_toArray, List.set_cons_zero, List.set_cons_succ, Nat.zero_add, Nat.reduceAdd, List.take_succ_cons, List.take_zero] at hK ⊢
                have HX := Lib.hid hS
                clear hS hE hlo
                go_wp2_with fail
                exact hK.out _ rfl
              · intro v wz hS hE K hK
                simp only [putAll, Act.put, List.setIfInBounds_toArray, List.set_cons_zero, List.set_cons_succ, Nat.zero_add, Nat.reduceAdd, List.take_succ_cons, List.take_zero] at hK ⊢
                have e2 : v 2 = _ := hE.1 rfl
                rw [e2] at hK ⊢
                have HX := Lib.hid hS
                clear hS hE
                go_wp2_with fail
                have hbz : Below wz.heap.size wz (wz.alloc (.cells #[.slice A6 np c6] 53)) := (Below.refl _ _).alloc (Nat.le_refl _) _
                refine hK.out _ _ (fun j z hj h => ?_) (HX.out.bel hbz (by decide)) (fun _ => ⟨wz.heap.size, rfl, by simp, by go_simp⟩)
                match j with
                | 0 | 1 | 2 | 5 | 6 | 7 | 8 | 9 | 12 | 14 => exact h
                | 4 => exact fun h1 => by omega
                | 10 => exact fun hc => by omega
                | 11 => exact fun h1 => by omega
                | 13 => exact fun hc => by omega
                | 3 => exact absurd rfl hj
                | _ + 15 => exact trivial
              · intro v wz hS hE K hK
                simp only [putAll, Act.put, List.setIfInBounds_toArray, List.set_cons_zero, List.set_cons_succ, Nat.zero_add, Nat.reduceAdd, List.take_succ_cons, List.take_zero] at hK ⊢
                have e1 : v 1 = _ := hE.1 rfl
                rw [e1] at hK ⊢
                have E3 := hE.2.1 rfl
                obtain ⟨g, e3, hgl, hg0⟩ := E3 rfl
                rw [e3] at hK ⊢
                have hown := hS.ve (by decide)
                have hcell : ∀ j u, ([.slice A6 np c6] : List Value)[j]? = some u → wz.cell? ((⟨g, 0, none⟩ : Addr).add j) = some u := fun j u hj => by
                  match j, hj with
                  | 0, hj => simp at hj; rw [← hj, Addr.add_lit]; exact hg0
                have hzz := hS.kf.size
                have HX := Lib.hid hS
                clear hS hE E3
                go_wp2_with (at_builtin; refine appI_at rfl _ _ 31 rfl (w.heap.size + 1) 53 is (.slice none 0 0) 1 24 Tryz.underlying31 his he0 he1 he2 rfl (by decide) _ i gv rfl hown ⟨g, 0, none⟩ 1 1 [.slice A6 np c6] rfl rfl hcell (by intro u hu; simp at hu; subst hu; rfl) (by unfold maxLen; omega) (by omega) (by omega) ?_)
                intro v' wx hown1 hg1 hfr
                obtain ⟨A', c', rfl, -, -⟩ := own_form hown1
                have hfr2 : Fresh (.slice A' (i + 1) c') (.slice AE i cE) wr.heap.size := hfr.imp id fun ⟨g, h1, h2⟩ => ⟨g, h1, Nat.le_trans hzz h2⟩
                refine hK.out _ _ (fun j z hj h => ?_) (HX.out.apE hg1) (fun _ _ => ⟨⟨A', c', rfl⟩, hown1, hfr2⟩)
                match j with
                | 0 | 1 | 2 | 5 | 6 | 7 | 8 | 9 | 12 | 14 => exact h
                | 3 => exact fun hc => by omega
                | 10 => exact fun hc => by omega
                | 11 => exact fun h1 => by omega
                | 13 => exact fun hc => by omega
                | 4 => exact absurd rfl hj
                | _ + 15 => exact trivial
              · intro v wz c hlo hS hE K hK
                simp only [putAll, Act.put, List.setIfInBounds_toArray, List.set_cons_zero, List.set_cons_succ, Nat.zero_add, Nat.reduceAdd, List.take_succ_cons, List.take_zero] at hK ⊢
                have HX := Lib.hid hS
                clear hS hE hlo
                go_wp2_with fail
                exact hK.out _ rfl
              · intro v wz c hlo hS hE K hK
                simp only [putAll, Act.put, List.setIfInBounds_toArray, List.set_cons_zero, List.set_cons_succ, Nat.zero_add, Nat.reduceAdd, List.take_succ_cons, List.take_zero] at hK ⊢
                have e5 : v 5 = _ := hE.1 rfl
                rw [e5] at hK ⊢
                have hc4 := hlo 4 (by kernel_rfl)
                have c1 := (World.cell?_of_block (a := ⟨w.heap.size + 1, 1, none⟩) (hS.bx (by omega))).trans xn1
                have l1 : w.heap.size + 1 < wz.heap.size := by have := hS.kf.size; omega
                clear hc4
                have HX := Lib.hid hS
                clear hS hE hlo
                go_wp2_with fail
                exact hK.out _ rfl
              · intro v wz c hlo hS hE K hK
                simp only [putAll, Act.put, List.setIfInBounds_toArray, List.set_cons_zero, List.set_cons_succ, Nat.zero_add, Nat.reduceAdd, List.take_succ_cons, List.take_zero] at hK ⊢
                have HX := Lib.hid hS
                clear hS hE hlo
                go_wp2_with fail
                exact hK.out _ rfl
              · intro v wz hS hE K hK
                simp only [putAll, Act.put, List.setIfInBounds_toArray, List.set_cons_zero, List.set_cons_succ, Nat.zero_add, Nat.reduceAdd, List.take_succ_cons, List.take_zero] at hK ⊢
                have e7 : v 7 = _ := hE.1 rfl
                rw [e7] at hK ⊢
                have HX := Lib.hid hS
                clear hS hE
                go_wp2_with fail
                refine (next_any b 3 wz (by decide) (by decide) HX.out.tp).mono ?_
                rintro e wy ⟨r, rfl, hr0, hr1, hty, hfy⟩
                have HY := Lib.hid (And.intro hty hfy)
                clear hty hfy hr0 hr1
                go_wp2_with fail
                refine hK.out _ _ (fun j z hj h => ?_) (HX.out.nxt HY.out.2 HY.out.1 (by decide)) ⟨r, rfl⟩
                match j with
                | 0 | 1 | 2 | 5 | 6 | 7 | 9 | 12 | 14 => exact h
                | 3 => exact fun hc => by omega
                | 4 => exact FEo.nxt h HY.out.2 HX.out.bB (by decide) (by decide)
                | 10 => exact fun hc => by omega
                | 11 => exact fun h1 => by omega
                | 13 => exact fun hc => by omega
                | 8 => exact absurd rfl hj
                | _ + 15 => exact trivial
              · intro v wz c hlo hS hE K hK
                simp only [putAll, Act.put, List.setIfInBounds_toArray, List.set_cons_zero, List.set_cons_succ, Nat.zero_add, Nat.reduceAdd, List.take_succ_cons, List.take_zero] at hK ⊢
                have E8 := hE.1 rfl
                obtain ⟨r, e8⟩ := E8
                rw [e8] at hK ⊢
                have HX := Lib.hid hS
                clear hS hE hlo
                go_wp2_with fail
                exact hK.out _ ⟨_, rfl⟩
              · intro v wz hS hE K hK
                simp only [putAll, Act.put, List.setIfInBounds_toArray, List.set_cons_zero, List.set_cons_succ, Nat.zero_add, Nat.reduceAdd, List.take_succ_cons, List.take_zero] at hK ⊢
                have E9 := hE.1 rfl
                obtain ⟨q, e9⟩ := E9
                rw [e9] at hK ⊢
                have HX := Lib.hid hS
                clear hS hE
                go_wp2_with fail
                have hbz : Below wz.heap.size wz (wz.alloc (.cells #[.bool q] 4)) := (Below.refl _ _).alloc (Nat.le_refl _) _
                refine hK.out _ _ (fun j z hj h => ?_) (HX.out.bel hbz (by decide)) (fun _ => ⟨wz.heap.size, q, rfl, by simp, by go_simp⟩)
                match j with
                | 0 | 1 | 2 | 5 | 6 | 7 | 8 | 9 | 12 | 14 => exact h
                | 3 => exact fun hc => by omega
                | 4 => exact FEo.bel h hbz (by decide) (by decide)
                | 11 => exact fun h1 => by omega
                | 13 => exact fun hc => by omega
                | 10 => exact absurd rfl hj
                | _ + 15 => exact trivial
              · intro v wz hS hE K hK
                simp only [putAll, Act.put, List.setIfInBounds_toArray, List.set_cons_zero, List.set_cons_succ, Nat.zero_add, Nat.reduceAdd, List.take_succ_cons, List.take_zero] at hK ⊢
                have e6 : v 6 = _ := hE.1 rfl
                rw [e6] at hK ⊢
                have E10 := hE.2.1 rfl
                obtain ⟨g, q, e10, hgl, hg0⟩ := E10 rfl
                rw [e10] at hK ⊢
                have hown := hS.va (by decide)
                have hcell : ∀ j u, ([.bool q] : List Value)[j]? = some u → wz.cell? ((⟨g, 0, none⟩ : Addr).add j) = some u := fun j u hj => by
                  match j, hj with
                  | 0, hj => simp at hj; rw [← hj, Addr.add_lit]; exact hg0
                have hzz := hS.kf.size
                have HX := Lib.hid hS
                have HOA := Lib.hid hown
                clear hS hE E10
                go_wp2_with (at_builtin; refine appI_at rfl _ _ 32 rfl (w.heap.size + 1) 4 ib (.bool false) 1 1 Tryz.underlying32 hib hb0' hb1 hb2 rfl (by decide) _ i (rowF bC acs) rfl hown ⟨g, 0, none⟩ 1 1 [.bool q] rfl rfl hcell (by intro u hu; simp at hu; subst hu; rfl) (by unfold maxLen; omega) (by omega) (by omega) ?_)
                intro v' wx hown1 hg1 hfr
                obtain ⟨A', c', rfl, -, -⟩ := own_form hown1
                have hfr2 : Fresh (.slice A' (i + 1) c') (.slice AK i cA) wr.heap.size := hfr.imp id fun ⟨g, h1, h2⟩ => ⟨g, h1, Nat.le_trans hzz h2⟩
                refine hK.out _ _ (fun j z hj h => ?_) (HX.out.apA hg1) (fun _ => ⟨⟨A', c', rfl⟩, ⟨q, hown1⟩, hfr2⟩)
                match j with
                | 0 | 1 | 2 | 5 | 6 | 7 | 8 | 9 | 12 | 14 => exact h
                | 3 => exact fun hc => by omega
                | 4 => exact FEo.apA h HOA.out hg1 (by decide) (by decide)
                | 10 => exact fun hc => by omega
                | 13 => exact fun hc => by omega
                | 11 => exact absurd rfl hj
                | _ + 15 => exact trivial
              · intro v wz c hlo hS hE K hK
                simp only [putAll, Act.put, List.setIfInBounds_toArray, List.set_cons_zero, List.set_cons_succ, Nat.zero_add, Nat.reduceAdd, List.take_succ_cons, List.take_zero] at hK ⊢
                have HX := Lib.hid hS
                clear hS hE hlo
                go_wp2_with fail
                exact hK.out _ rfl
              · intro v wz hS hE K hK
                simp only [putAll, Act.put, List.setIfInBounds_toArray, List.set_cons_zero, List.set_cons_succ, Nat.zero_add, Nat.reduceAdd, List.take_succ_cons, List.take_zero] at hK ⊢
                have e12 : v 12 = _ := hE.1 rfl
                rw [e12] at hK ⊢
                have E4 := hE.2.1 rfl
                obtain ⟨⟨A4, c4, e4⟩, o4, f4⟩ := id E4 (by decide) (by decide)
                rw [e4] at hK E4 ⊢
                have hrow := (hS.bx (by decide)).trans HNR.out
                have cz : wz.cell? ⟨w.heap.size + 1, 0, none⟩ = some (.slice AE i cE) := by rw [cell_of_row _ _ _ _ _ _ hrow]; rfl
                have fz : wz.frozen? ⟨w.heap.size + 1, 0, none⟩ = false := by simp [World.frozen?, hrow]
                have HX := Lib.hid hS
                have HO := Lib.hid (And.intro E4 hrow)
                clear hS hE o4 f4 hrow e4 E4
                go_wp2_with fail
                refine hK.out undef _ (fun j z hj h => ?_) HX.out.set (FBo.set HO.out.1 HO.out.2)
                match j with
                | 0 | 1 | 2 | 5 | 6 | 7 | 8 | 9 | 12 | 14 => exact h
                | 3 => exact fun hc => by omega
                | 4 => exact fun _ h1 => by omega
                | 10 => exact fun hc => by omega
                | 11 => exact FAo.set h HO.out.2
                | 13 => exact absurd rfl hj
                | _ + 15 => exact trivial
              · intro v wz c hlo hS hE K hK
                simp only [putAll, Act.put, List.setIfInBounds_toArray, List.set_cons_zero, List.set_cons_succ, Nat.zero_add, Nat.reduceAdd, List.take_succ_cons, List.take_zero] at hK ⊢
                have HX := Lib.hid hS
                clear hS hE hlo
                go_wp2_with fail
                exact hK.out _ rfl
            · intro v wz hS hF
              have e0 : v 0 = _ := hF 0 (by decide)
              have e1 : v 1 = _ := hF 1 (by decide)
              have e2 : v 2 = _ := hF 2 (by decide)
              have e5 : v 5 = _ := hF 5 (by decide)
              have e6 : v 6 = _ := hF 6 (by decide)
              have e7 : v 7 = _ := hF 7 (by decide)
              have e12 : v 12 = _ := hF 12 (by decide)
              have e14 : v 14 = _ := hF 14 (by decide)
              have E3 := hF 3 (by decide)
              have E4 := hF 4 (by decide)
              have E8 := hF 8 (by decide)
              have E9 := hF 9 (by decide)
              have E10 := hF 10 (by decide)
              have E11 := hF 11 (by decide)
              have E13 := hF 13 (by decide)
              simp only [putAll, Act.put, List.setIfInBounds_toArray, List.set_cons_zero, List.set_cons_succ, Nat.zero_add, Nat.reduceAdd, List.take_succ_cons, List.take_zero, List.drop_succ_cons, List.drop_zero, e0, e1, e2, e5, e6, e7, e12, e14]
              clear hF e0 e1 e2 e5 e6 e7 e12 e14
              have h13 := E13
              have h11 := E11
              obtain ⟨⟨A8, c8, e8⟩, -, -⟩ := id E11 (by decide)
              rw [e8] at h11 ⊢
              obtain ⟨x4, -, -, hbx⟩ := id E13 rfl
              have cz1 : wz.cell? ⟨w.heap.size + 1, 1, none⟩ = some (.slice AK i cA) := by rw [cell_of_row _ _ _ _ _ _ hbx]; rfl
              have fz1 : wz.frozen? ⟨w.heap.size + 1, 1, none⟩ = false := by simp [World.frozen?, hbx]
              have lNz : w.heap.size + 1 < wz.heap.size := (Array.getElem?_eq_some_iff.1 hbx).1
              have hrow : OR 58 3 edC w2.heap.size (.slice A6 np c6) p wr := by have := HW.out.2.2; rw [HP.out] at this; exact this
              obtain ⟨x5, q, hmm, hkk, htt⟩ := hS.done h13 h11 HOr.out.rl HOr.out.al (EdIn.of_OR hrow) (fun g hg hm => by have h1 := (World.ownsRow.lt hrow g hg).1; have h2 := (HO2.out.mm.lt g hm).2; omega) (fun g hg => by have h1 := World.ownsRow.lt hrow g hg; have := (Array.getElem?_eq_some_iff.1 HO2.out.mm.hN).1; omega)
              have HST := Lib.hid (HOr.out.step hbl hmm hkk htt (show p.length ≤ 3 by have := HP.out; omega) HI.out)
              clear hS E3 E4 E8 E9 E10 E11 E13 h13 h11 e8 hbx hrow hmm hkk htt
              go_wp2_with fail
              go_roundw
              case measure => simp [intOf]; omega
              case rel => exact ⟨i + 1, by omega, by go_num, _, _, _, _, _, HST.out⟩
    · obtain rfl : i = n := by omega
      have hd : decide ((i : Int) < (i : Int)) = false := decide_eq_false (by omega)
      have hdn : decide (i < i) = false := decide_eq_false (by omega)
      obtain ⟨vE, vA, gv, rs, acs, hO⟩ := HO.out
      have HOW := Lib.hid hO
      clear hO
      obtain ⟨ve, va, ee, he, ha⟩ := HOW.out.mm.mcIn
      injection ee with ee
      simp only [Array.mk.injEq, List.cons.injEq, and_true] at ee
      obtain ⟨rfl, rfl⟩ := ee
      obtain ⟨A9, c9, e9, -⟩ := he.form
      obtain ⟨B9, d9, f9, -⟩ := ha.form
      generalize (⟨rs, acs⟩ : Mc).ed.length = n9 at *
      generalize (⟨rs, acs⟩ : Mc).ac.length = m9 at *
      subst e9 f9
      have hN := HOW.out.mm.hN
      have hR := HOW.out.res
      obtain ⟨b0, b1⟩ : wr.cell? ⟨w.heap.size + 1, 0, none⟩ = some (.slice A9 n9 c9) ∧ wr.cell? ⟨w.heap.size + 1, 1, none⟩ = some (.slice B9 m9 d9) := by constructor <;> (rw [cell_of_row _ _ _ _ _ _ hN]; rfl)
      obtain ⟨rz0, rz1⟩ : wr.cell? ⟨w.heap.size, 0, none⟩ = some (.slice none 0 0) ∧ wr.cell? ⟨w.heap.size, 1, none⟩ = some (.slice none 0 0) := by constructor <;> (rw [cell_of_row _ _ _ _ _ _ hR]; rfl)
      have gz0 : wr.frozen? ⟨w.heap.size, 0, none⟩ = false := by simp [World.frozen?, hR]
      have gz1 : wr.frozen? ⟨w.heap.size, 1, none⟩ = false := by simp [World.frozen?, hR]
      have lN : w.heap.size + 1 < wr.heap.size := (Array.getElem?_eq_some_iff.1 hN).1
      have lR : w.heap.size < wr.heap.size := by omega
      clear he ha hN hR HO
      go_wp2_with fail
      refine post_named fun Wf hWf => ?_
      refine bodyPost_ret (v := .agg #[.slice A9 n9 c9, .slice B9 m9 d9]) (by rw [hWf]; simp [results, Tryz.results19, go_sem, rz0, rz1, lR]; try rfl) rfl ?_
      have hkl : KeepF [w.heap.size] [] wr Wf := by
        rw [hWf]
        have hne : ∀ k, k ∉ [w.heap.size] → k ≠ w.heap.size := fun k hn e => hn (List.mem_singleton.2 e)
        exact ⟨rfl, rfl, rfl, by simp [World.setCell], fun k _ hn => (Below.heap_setCell (wr.setCell ⟨w.heap.size, 0, none⟩ _) ⟨w.heap.size, 1, none⟩ _ k (hne k hn)).trans (Below.heap_setCell wr ⟨w.heap.size, 0, none⟩ _ k (hne k hn)), fun k hk => by cases hk⟩
      have hup := (HOW.out.mm.low hkl (fun k hk => by rw [List.mem_singleton] at hk; omega)).up.mono (show w.heap.size ≤ w.heap.size + 1 by omega)
      have hbf : Below w.heap.size wr Wf := hkl.below (fun k hk => by rw [List.mem_singleton] at hk; omega) (by omega)
      obtain ⟨hv, hsm⟩ := own_vld HOW.out.rl HOW.out.al HOW.out.rok hn5
      have hl : rs.length = i := HOW.out.rl
      exact ⟨_, ⟨rs, acs⟩, rfl, hup, hv, hsm, ⟨by show 1 ≤ rs.length; omega, by show rs.length ≤ 5; omega⟩, HOW.out.tp.below' hbf hbl, fr_low' HOW.out.fr hbf⟩
end Go.Proofs.YtjhmipidmpmlmaaGreatDoor
namespace Go.Proofs.YtjhmipidmpmlmaaGreatDoor
set_option linter.unusedVariables false
set_option linter.unusedSimpArgs false
set_option maxRecDepth 100000
open Go.RowKit
theorem own_type' {w : World} {B k n : Nat} {e : TypeId} {v : Value} {xs : List Value} (h : w.ownsRow B e k v n xs) : ∀ g, v.ownBlock = some g → ∃ cs m, w.heap[g]? = some (.cells cs e m) := fun g hg => by
  rcases h.2 with ⟨h1, -⟩ | ⟨g', cap, cur, h1, -, hg', -⟩
  · subst h1; simp [Value.ownBlock] at hg
  · subst h1; simp [Value.ownBlock] at hg; subst hg; exact ⟨_, _, hg'⟩
/-- The repetition that was read, as a value. -/
def ItP (B : Nat) (x : Value) (w' : World) : Prop := ∃ g v, x = .agg #[.int .i64 4, .slice none 0 0, .slice (some ⟨g, 0, none⟩) 1 1, .int .i64 2, .int .i64 2] ∧ B ≤ g ∧ w'.heap[g]? = some (.cells #[.int .i64 1, v, .slice none 0 0, .int .i64 0, .int .i64 0] 29 (0, 0)) ∧ OR 56 2 rgC B v [(97, 98)] w'
theorem ItP.keep {B : Nat} {x : Value} {w w' : World} {L L' : List Nat} (h : ItP B x w) (hk : KeepF L L' w w') (hL : ∀ k ∈ L, k < B) : ItP B x w' := by
  obtain ⟨g, v, h1, h2, h3, h4⟩ := h
  exact ⟨g, v, h1, h2, (hk.blk g (Array.getElem?_eq_some_iff.1 h3).1 fun hm => by have := hL g hm; omega).trans h3, OR.keep h4 fun q hq => hk.blk q (World.ownsRow.lt h4 q hq).2 fun hm => by have := hL q hm; have := (World.ownsRow.lt h4 q hq).1; omega⟩
theorem ItP.mono {B B' : Nat} {x : Value} {w : World} (h : ItP B x w) (hB : B' ≤ B) : ItP B' x w := by
  obtain ⟨g, v, h1, h2, h3, h4⟩ := h
  exact ⟨g, v, h1, Nat.le_trans hB h2, h3, OR.mono h4 hB⟩
def StI10 (rb : Nat) (d : Int) (W : World) (c : Nat) (w' : World) : Prop := KfR rb W w' ∧ (c = 0 → RdW rb ⟨#[50, 125]⟩ false d w')
def factI10 (rb : Nat) (d : Int) (v1 : Value) (W : World) : Nat → Nat → Value → World → Prop
  | c, 0, x, w => x = .agg #[.int .i64 1, v1, .slice none 0 0, .int .i64 0, .int .i64 0]
  | c, 1, x, w => ∃ g, x = .slice (some ⟨g, 0, none⟩) 1 1 ∧ W.heap.size ≤ g ∧ g < w.heap.size ∧ w.heap[g]? = some (.cells #[.int .i64 1, v1, .slice none 0 0, .int .i64 0, .int .i64 0] 29 (0, 0))
  | c, 2, x, w => x = .pointer (some ⟨rb, 0, none⟩)
  | c, 3, x, w => c = 1 → x = .int .i64 2 ∧ RdW rb ⟨#[125]⟩ false d w
  | _, _, _, _ => True
set_option maxHeartbeats 4000000 in
theorem set5 {w Wf : World} {b : Nat} {a0 a1 a2 a3 a4 : Value} (h : Wf = ((((w.setCell ⟨b, 0, none⟩ a0).setCell ⟨b, 1, none⟩ a1).setCell ⟨b, 2, none⟩ a2).setCell ⟨b, 3, none⟩ a3).setCell ⟨b, 4, none⟩ a4) : (∀ k, k ≠ b → Wf.heap[k]? = w.heap[k]?) ∧ Wf.heap.size = w.heap.size ∧ (Wf.os = w.os ∧ Wf.tape = w.tape ∧ Wf.output = w.output) ∧
    ∀ {o0 o1 o2 o3 o4 : Value} {T : TypeId}, w.heap[b]? = some (.cells #[o0, o1, o2, o3, o4] T (0, 0)) → Wf.heap[b]? = some (.cells #[a0, a1, a2, a3, a4] T (0, 0)) := by
  subst h
  refine ⟨fun k hk => ?_, by simp [World.setCell], ⟨rfl, rfl, rfl⟩, fun {o0 o1 o2 o3 o4 T} hb => ?_⟩
  · exact (Below.heap_setCell _ ⟨b, 4, none⟩ _ k hk).trans ((Below.heap_setCell _ ⟨b, 3, none⟩ _ k hk).trans ((Below.heap_setCell _ ⟨b, 2, none⟩ _ k hk).trans ((Below.heap_setCell _ ⟨b, 1, none⟩ _ k hk).trans (Below.heap_setCell _ ⟨b, 0, none⟩ _ k hk))))
  · have := set_row3 (set_row3 (set_row3 (set_row3 (set_row3 hb 0 a0) 1 a1) 2 a2) 3 a3) 4 a4
    simpa using this
set_option maxHeartbeats 4000000 in
theorem item_ab (rb : Nat) (d : Int) (w : World) (h : RdW rb ⟨#[91, 97, 45, 98, 93, 123, 50, 125]⟩ false d w) :
    Calls Tryz.prog 142 #[.pointer (some ⟨rb, 0, none⟩)] w fun e w' => ∃ x, e = .returned x ∧ ItP w.heap.size x w' ∧ RdW rb ⟨#[]⟩ false d w' ∧ KfR rb w w' := by
  obtain ⟨-, -, hl⟩ := h.cells
  have HR := Lib.hid h
  clear h
  have hne : ∀ k, w.heap.size ≤ k → k ∉ [rb] := fun k hk hm => by rw [List.mem_singleton] at hm; omega
  go_enter Tryz.func142, Tryz.ntmps142
  go_wp2_with fail
  refine calls_named fun W0 hW0 => ?_
  have hb0 : Below w.heap.size w W0 := by rw [hW0]; exact ((Below.refl _ _).alloc (Nat.le_refl _) _).alloc (by simp) _
  have hX : W0.heap[w.heap.size + 1]? = some (.cells #[.int .i64 0, .slice none 0 0, .slice none 0 0, .int .i64 0, .int .i64 0] 29 (0, 0)) := by rw [hW0]; simpa using heap_alloc_new (w.alloc _) (.cells #[.int .i64 0, .slice none 0 0, .slice none 0 0, .int .i64 0, .int .i64 0] 29)
  have hY : W0.heap[w.heap.size]? = some (.cells #[.int .i64 0, .slice none 0 0, .slice none 0 0, .int .i64 0, .int .i64 0] 29 (0, 0)) := by rw [hW0, old_alloc _ _ _ (by simp)]; exact heap_alloc_new w _
  have hz0 : W0.heap.size = w.heap.size + 2 := by rw [hW0]; simp
  have hT1 := take_any rb _ ⟨#[91, 97, 45, 98, 93, 123, 50, 125]⟩ ⟨#[40]⟩ false false d W0 (HR.out.later hb0) rfl rfl
  have HT1 := Lib.hid hT1
  have H0 := Lib.hid (And.intro hb0 (And.intro hX hY))
  clear hW0 hb0 hX hY hT1
  refine HT1.out.mono ?_
  rintro e w1 ⟨rfl, hr1, hk1⟩
  have HT2 := Lib.hid (take_any rb _ ⟨#[97, 45, 98, 93, 123, 50, 125]⟩ ⟨#[91]⟩ false true d w1 hr1 rfl rfl)
  have H1 := Lib.hid hk1
  clear hr1 hk1
  go_wp2_with fail
  refine HT2.out.mono ?_
  rintro e w2 ⟨rfl, hr2, hk2⟩
  have HT3 := Lib.hid (set_ab rb d w2 hr2)
  have hk02 := H1.out.tr hk2
  have H2 := Lib.hid hk02
  have hz2 := hk02.size
  clear hr2 hk2 hk02
  go_wp2_with fail
  refine HT3.out.mono ?_
  rintro e w3 ⟨v1, rfl, ho3, hr3, hk3⟩
  obtain ⟨A1, c1, rfl, -, -⟩ := own_form (show w3.ownsRow _ _ _ _ _ _ from ho3)
  obtain ⟨n1, hn1⟩ : ∃ n, [((97 : Nat), (98 : Nat))].length = n := ⟨_, rfl⟩
  rw [hn1] at ho3 ⊢
  have hk03 := H2.out.tr hk3
  have hX3 := (hk03.blk (w.heap.size + 1) (by omega) (hne _ (by omega))).trans H0.out.2.1
  have hY3 := (hk03.blk w.heap.size (by omega) (hne _ (Nat.le_refl _))).trans H0.out.2.2
  obtain ⟨x0, x1, x2, x3, x4⟩ := cells5 hX3
  have fx : ∀ j, j < 5 → w3.frozen? ⟨w.heap.size + 1, j, none⟩ = false := fun j _ => by simp [World.frozen?, hX3]
  have fx0 := fx 0 (by decide)
  have fx1 := fx 1 (by decide)
  have fx2 := fx 2 (by decide)
  have fx3 := fx 3 (by decide)
  have fx4 := fx 4 (by decide)
  have hz3 := hk03.size
  have lX3 : w.heap.size + 1 < w3.heap.size := by omega
  have H3 := Lib.hid (And.intro ho3 (And.intro hr3 (And.intro hk03 (And.intro hX3 hY3))))
  clear ho3 hr3 hk3 hk03 hX3 hY3 fx hn1
  go_wp2_with fail
  refine calls_named fun W4 hW4 => ?_
  obtain ⟨s1, s2, s3, s4⟩ := set5 hW4
  have hX4 := s4 H3.out.2.2.2.1
  have hY4 := (s1 w.heap.size (by omega)).trans H3.out.2.2.2.2
  have hr4 := H3.out.2.1.keep (s1 rb (by omega))
  have ho4 : W4.ownsRow w2.heap.size 56 2 (.slice A1 n1 c1) _ _ := own_same H3.out.1 fun g hg => s1 g (by have := (World.ownsRow.lt H3.out.1 g hg).1; omega)
  have HT5 := Lib.hid (take_any rb _ ⟨#[50, 125]⟩ ⟨#[123]⟩ false true d W4 hr4 rfl rfl)
  have H4 := Lib.hid (And.intro hX4 (And.intro hY4 (And.intro (show OR 56 2 rgC w2.heap.size (.slice A1 n1 c1) [(97, 98)] W4 from ho4) (And.intro s1 (And.intro s2 s3)))))
  clear hW4 s1 s3 s4 hX4 hY4 hr4 ho4 x0 x1 x2 x3 x4 fx0 fx1 fx2 fx3 fx4
  refine HT5.out.mono ?_
  rintro e W ⟨rfl, hrW, hkW⟩
  have hXW := (hkW.blk (w.heap.size + 1) (by omega) (hne _ (by omega))).trans H4.out.1
  obtain ⟨m0, m1, m2, m3, m4⟩ := cells5 hXW
  have hzW := hkW.size
  have lX : w.heap.size + 1 < W.heap.size := by omega
  have nX := hne (w.heap.size + 1) (by omega)
  have hS0 : StI10 rb d W 0 W.drew := ⟨⟨rfl, rfl, rfl, Nat.le_refl _, fun _ _ _ => rfl, fun _ h => .inl h⟩, fun _ => hrW⟩
  have H5 := Lib.hid (And.intro hkW hXW)
  clear hrW hkW hXW
  go_wp2_with fail
  refine wp_region_chain 4 [3] (factI10 rb d (.slice A1 n1 c1) W) (fun c w' => StI10 rb d W c w') (by kernel_rfl) (by kernel_rfl) (by kernel_rfl) (by kernel_rfl) (by kernel_rfl) (by kernel_rfl) (by decide) hS0 ?_ ?_
  · simp only [List.take_succ_cons, List.take_zero]
    refine HSteps.pure (by decide) ?_ (HSteps.free (by decide) ?_ (HSteps.pure (by decide) ?_ (HSteps.eff 0 rfl ?_ (HSteps.nil))))
    · intro v wz c hlo hS hE K hK
      simp only [putAll, Act.put, List.setIfInBounds_toArray, List.set_cons_zero, List.set_cons_succ, Nat.zero_add, Nat.reduceAdd, List.take_succ_cons, List.take_zero] at hK ⊢
      have y0 := (World.cell?_of_block (a := ⟨w.heap.size + 1, 0, none⟩) (hS.1.blk _ lX nX)).trans m0
      have y1 := (World.cell?_of_block (a := ⟨w.heap.size + 1, 1, none⟩) (hS.1.blk _ lX nX)).trans m1
      have y2 := (World.cell?_of_block (a := ⟨w.heap.size + 1, 2, none⟩) (hS.1.blk _ lX nX)).trans m2
      have y3 := (World.cell?_of_block (a := ⟨w.heap.size + 1, 3, none⟩) (hS.1.blk _ lX nX)).trans m3
      have y4 := (World.cell?_of_block (a := ⟨w.heap.size + 1, 4, none⟩) (hS.1.blk _ lX nX)).trans m4
      have l1 : w.heap.size + 1 < wz.heap.size := by have := hS.1.size; omega
      have HX := Lib.hid hS
      clear hS hE hlo
      go_wp2_with fail
      exact hK.out _ rfl
    · intro v wz c hlo hS hE K hK
      simp only [putAll, Act.put, List.setIfInBounds_toArray, List.set_cons_zero, List.set_cons_succ, Nat.zero_add, Nat.reduceAdd, List.take_succ_cons, List.take_zero] at hK ⊢
      have e0 : v 0 = _ := hE.1 rfl
      rw [e0] at hK ⊢
      have hbz : Below wz.heap.size wz (wz.alloc (.cells #[.int .i64 1, .slice A1 n1 c1, .slice none 0 0, .int .i64 0, .int .i64 0] 29)) := (Below.refl _ _).alloc (Nat.le_refl _) _
      have hzW := hS.1.size
      have hk1 : KfR rb W (wz.alloc (.cells #[.int .i64 1, .slice A1 n1 c1, .slice none 0 0, .int .i64 0, .int .i64 0] 29)) := hS.1.tr (kfr_below hbz)
      have hr1 : c = 0 → RdW rb ⟨#[50, 125]⟩ false d (wz.alloc (.cells #[.int .i64 1, .slice A1 n1 c1, .slice none 0 0, .int .i64 0, .int .i64 0] 29)) := fun h => (hS.2 h).later hbz
      have HX := Lib.hid (And.intro hk1 hr1)
      have HBZ := Lib.hid hbz
      clear hS hE hlo hbz hk1 hr1
      go_wp2_with fail
      refine hK.out _ _ (fun j z hj h => ?_) HX.out ⟨wz.heap.size, rfl, hzW, by simp, by simpa using heap_alloc_new wz (.cells #[.int .i64 1, .slice A1 n1 c1, .slice none 0 0, .int .i64 0, .int .i64 0] 29)⟩
      match j with
      | 0 | 2 => exact h
      | 1 => exact absurd rfl hj
      | 3 => exact fun hc => ⟨(h hc).1, (h hc).2.later HBZ.out⟩
      | _ + 4 => exact trivial
    · intro v wz c hlo hS hE K hK
      simp only [putAll, Act.put, List.setIfInBounds_toArray, List.set_cons_zero, List.set_cons_succ, Nat.zero_add, Nat.reduceAdd, List.take_succ_cons, List.take_zero] at hK ⊢
      have HX := Lib.hid hS
      clear hS hE hlo
      go_wp2_with fail
      exact hK.out _ rfl
    · intro v wz hS hE K hK
      simp only [putAll, Act.put, List.setIfInBounds_toArray, List.set_cons_zero, List.set_cons_succ, Nat.zero_add, Nat.reduceAdd, List.take_succ_cons, List.take_zero] at hK ⊢
      have e2 : v 2 = _ := hE.1 rfl
      rw [e2] at hK ⊢
      have hcall := number_2 rb d wz (hS.2 rfl)
      have HC := Lib.hid hcall
      have HX := Lib.hid hS
      clear hS hE hcall
      go_wp2_with fail
      refine HC.out.mono ?_
      rintro e wy ⟨rfl, hr, hk⟩
      have HP := Lib.hid (And.intro hr hk)
      clear hr hk
      go_wp2_with fail
      refine hK.out _ _ (fun j z hj h => ?_) ⟨HX.out.1.tr HP.out.2, fun h => by cases h⟩ (fun _ => ⟨rfl, HP.out.1⟩)
      match j with
      | 0 | 2 => exact h
      | 1 =>
        obtain ⟨g, e, h1, h2, h3⟩ := h
        have hrW := HX.out.1.size
        exact ⟨g, e, h1, Nat.lt_of_lt_of_le h2 HP.out.2.size, (HP.out.2.blk g h2 (by rw [List.mem_singleton]; omega)).trans h3⟩
      | 3 => exact absurd rfl hj
      | _ + 4 => exact trivial
  · intro v wz hS hF
    have e0 : v 0 = _ := hF 0 (by decide)
    have e2 : v 2 = _ := hF 2 (by decide)
    have E1 := hF 1 (by decide)
    have E3 := hF 3 (by decide)
    simp only [putAll, Act.put, List.setIfInBounds_toArray, List.set_cons_zero, List.set_cons_succ, Nat.zero_add, Nat.reduceAdd, List.take_succ_cons, List.take_zero, List.drop_succ_cons, List.drop_zero, e0, e2]
    clear hF e0 e2
    obtain ⟨g1, e1', hg1, hg2, hg3⟩ := E1
    obtain ⟨e3', hrz⟩ := E3 rfl
    rw [e1', e3']
    have hkz := hS.1
    have hXz := (hkz.blk (w.heap.size + 1) lX nX).trans H5.out.2
    have hYW := (H5.out.1.blk w.heap.size (by omega) (hne _ (Nat.le_refl _))).trans H4.out.2.1
    have hYz := (hkz.blk w.heap.size (by omega) (hne _ (Nat.le_refl _))).trans hYW
    obtain ⟨x0, x1, x2, x3, x4⟩ := cells5 hXz
    have fx : ∀ j, j < 5 → wz.frozen? ⟨w.heap.size + 1, j, none⟩ = false := fun j _ => by simp [World.frozen?, hXz]
    have fx0 := fx 0 (by decide)
    have fx1 := fx 1 (by decide)
    have fx2 := fx 2 (by decide)
    have fx3 := fx 3 (by decide)
    have fx4 := fx 4 (by decide)
    have hzz := hkz.size
    have lXz : w.heap.size + 1 < wz.heap.size := by omega
    have ho5 : OR 56 2 rgC (w.heap.size + 1) (.slice A1 n1 c1) [(97, 98)] wz := by
      have hoW := H4.out.2.2.1
      have h1 := OR.keep hoW (w1 := W) fun q hq => H5.out.1.blk q (World.ownsRow.lt hoW q hq).2 (hne _ (by have := (World.ownsRow.lt hoW q hq).1; omega))
      have h2 := OR.keep h1 (w1 := wz) fun q hq => hkz.blk q (World.ownsRow.lt h1 q hq).2 (hne _ (by have := (World.ownsRow.lt h1 q hq).1; omega))
      exact OR.mono h2 (by omega)
    have H6 := Lib.hid (And.intro hkz (And.intro hXz (And.intro hYz (And.intro ho5 (And.intro hrz hg3)))))
    clear hS hkz hXz hYW hYz fx ho5 hrz hg3 e1' e3' E3 m0 m1 m2 m3 m4
    go_wp2_with fail
    refine calls_named fun W8 hW8 => ?_
    obtain ⟨W7, hW7⟩ : ∃ W7, W7 = ((((wz.setCell ⟨w.heap.size + 1, 0, none⟩ (.int .i64 4)).setCell ⟨w.heap.size + 1, 1, none⟩ (.slice none 0 0)).setCell ⟨w.heap.size + 1, 2, none⟩ (.slice (some ⟨g1, 0, none⟩) 1 1)).setCell ⟨w.heap.size + 1, 3, none⟩ (.int .i64 2)).setCell ⟨w.heap.size + 1, 4, none⟩ (.int .i64 0) := ⟨_, rfl⟩
    rw [← hW7] at hW8
    obtain ⟨s1, s7, s3, s4⟩ := set5 hW7
    have hX7 := s4 H6.out.2.1
    have hX8 : W8.heap[w.heap.size + 1]? = some (.cells #[.int .i64 4, .slice none 0 0, .slice (some ⟨g1, 0, none⟩) 1 1, .int .i64 2, .int .i64 2] 29 (0, 0)) := by
      rw [hW8]
      have := set_row3 hX7 4 (.int .i64 2)
      simpa using this
    have t1 : ∀ k, k ≠ w.heap.size + 1 → W8.heap[k]? = wz.heap[k]? := fun k hk => by rw [hW8]; exact (Below.heap_setCell _ ⟨w.heap.size + 1, 4, none⟩ _ k hk).trans (s1 k hk)
    have t2 : W8.heap.size = wz.heap.size := by rw [hW8]; simp [World.setCell]; exact s7
    have t3 : W8.os = wz.os ∧ W8.tape = wz.tape ∧ W8.output = wz.output := by rw [hW8]; exact s3
    have hr8 := H6.out.2.2.2.2.1.keep (t1 rb (by omega))
    have hY8 := (t1 w.heap.size (by omega)).trans H6.out.2.2.1
    have ho8 := OR.keep H6.out.2.2.2.1 (w1 := W8) fun q hq => t1 q (by
      intro e
      obtain ⟨cs, md, h1⟩ := own_type' (show wz.ownsRow _ _ _ _ _ _ from H6.out.2.2.2.1) q hq
      rw [e, H6.out.2.1] at h1
      injection h1 with h1
      injection h1 with _ h1 _
      exact absurd h1 (by decide))
    have hg8 := (t1 g1 (by omega)).trans H6.out.2.2.2.2.2
    have HT9 := Lib.hid (take_any rb _ ⟨#[125]⟩ ⟨#[44]⟩ false false d W8 hr8 rfl rfl)
    have H8 := Lib.hid (And.intro hX8 (And.intro hY8 (And.intro ho8 (And.intro hg8 (And.intro t1 t3)))))
    clear hW7 hW8 s1 s3 s4 hX7 hX8 t1 t3 hr8 hY8 ho8 hg8 x0 x1 x2 x3 x4 fx0 fx1 fx2 fx3 fx4
    refine HT9.out.mono ?_
    rintro e w9 ⟨rfl, hr9, hk9⟩
    have HT10 := Lib.hid (need_yes rb _ ⟨#[]⟩ ⟨#[125]⟩ false d w9 hr9 rfl rfl)
    have H9 := Lib.hid hk9
    clear hr9 hk9
    go_wp2_with fail
    refine HT10.out.mono ?_
    rintro e w10 ⟨rfl, hr10, hk10⟩
    have hk8 := H9.out.tr hk10
    have hz8 := hk8.size
    have hX10 := (hk8.blk (w.heap.size + 1) (by omega) (hne _ (by omega))).trans H8.out.1
    have hY10 := (hk8.blk w.heap.size (by omega) (hne _ (Nat.le_refl _))).trans H8.out.2.1
    obtain ⟨x0, x1, x2, x3, x4⟩ := cells5 hX10
    obtain ⟨y0, y1, y2, y3, y4⟩ := cells5 hY10
    have fy : ∀ j, j < 5 → w10.frozen? ⟨w.heap.size, j, none⟩ = false := fun j _ => by simp [World.frozen?, hY10]
    have fy0 := fy 0 (by decide)
    have fy1 := fy 1 (by decide)
    have fy2 := fy 2 (by decide)
    have fy3 := fy 3 (by decide)
    have fy4 := fy 4 (by decide)
    have l10 : w.heap.size + 1 < w10.heap.size := by omega
    have l100 : w.heap.size < w10.heap.size := by omega
    have H10 := Lib.hid (And.intro hr10 hk8)
    clear hr10 hk10 hk8 hX10 hY10 fy
    go_wp2_with fail
    refine post_named fun Wf hWf => ?_
    obtain ⟨u1, u2, u3, -⟩ := set5 hWf
    refine bodyPost_ret (v := .agg #[.int .i64 4, .slice none 0 0, .slice (some ⟨g1, 0, none⟩) 1 1, .int .i64 2, .int .i64 2]) (by rw [hWf]; simp [results, Tryz.results142, go_sem, y0, y1, y2, y3, y4, l100]; try rfl) rfl ?_
    have hkf : KeepF [rb, w.heap.size] [] w10 Wf := ⟨u3.1, u3.2.1, u3.2.2, by omega, fun k _ hn => u1 k (fun e => hn (by simp [e])), fun k hk => by cases hk⟩
    have hit8 : ItP (w.heap.size + 1) (.agg #[.int .i64 4, .slice none 0 0, .slice (some ⟨g1, 0, none⟩) 1 1, .int .i64 2, .int .i64 2]) W8 := ⟨g1, .slice A1 n1 c1, rfl, by omega, H8.out.2.2.2.1, H8.out.2.2.1⟩
    have hitf := (hit8.keep H10.out.2 (fun k hk => by rw [List.mem_singleton] at hk; omega)).keep hkf (fun k hk => by simp at hk; omega)
    have hs1 := H4.out.2.2.2.1
    have hs2 := H4.out.2.2.2.2.2
    have ht1 := H8.out.2.2.2.2.1
    have ht3 := H8.out.2.2.2.2.2
    have k1 := H3.out.2.2.1
    have k2 := H5.out.1
    have k3 := H6.out.1
    have k4 := H10.out.2
    have kb := H0.out.1
    refine ⟨_, rfl, hitf.mono (by omega), H10.out.1.keep (u1 rb (by omega)), ?_⟩
    refine ⟨?_, ?_, ?_, by omega, fun k hk hn => ?_, fun k hk => .inl hk⟩
    · rw [u3.1, k4.os, ht3.1, k3.os, k2.os, hs2.1, k1.os, kb.os]
    · rw [u3.2.1, k4.tape, ht3.2.1, k3.tape, k2.tape, hs2.2.1, k1.tape, kb.tape]
    · rw [u3.2.2, k4.output, ht3.2.2, k3.output, k2.output, hs2.2.2, k1.output, kb.output]
    · rw [u1 k (by omega), k4.blk k (by omega) hn, ht1 k (by omega), k3.blk k (by omega) hn, k2.blk k (by omega) hn, hs1 k (by omega), k1.blk k (by omega) hn, kb.block k hk]
end Go.Proofs.YtjhmipidmpmlmaaGreatDoor
namespace Go.Proofs.YtjhmipidmpmlmaaGreatDoor
set_option linter.unusedVariables false
set_option linter.unusedSimpArgs false
set_option maxRecDepth 100000
open Go.RowKit
theorem rch_last (m : Mc) : ∀ (bs : List Nat) (s k : Nat), (rchF m bs s k).getLast? = some (k + bs.length) ↔ acF m bs s = true
  | [], s, k => by
    rw [rchF, acF]
    cases h : (m.ac[s]?).getD false <;> simp
  | c :: w, s, k => by
    rw [rchF, acF]
    cases ht : trn (rowM m s) c with
    | none => cases h : (m.ac[s]?).getD false <;> simp
    | some t =>
      simp only
      rw [← rch_last m w t (k + 1)]
      have e : k + (c :: w).length = k + 1 + w.length := by simp; omega
      rw [e, List.getLast?_append]
      cases hl : (rchF m w t (k + 1)).getLast? with
      | some x => simp
      | none =>
        simp only [Option.none_or]
        constructor
        · intro h
          split at h
          · simp at h; omega
          · simp at h
        · intro h; cases h
theorem rch_len (m : Mc) : ∀ (bs : List Nat) (s k : Nat), (rchF m bs s k).length ≤ bs.length + 1
  | [], s, k => by rw [rchF]; split <;> simp
  | c :: w, s, k => by
    rw [rchF, List.length_append]
    have h1 : (if (m.ac[s]?).getD false = true then [k] else []).length ≤ 1 := by split <;> simp
    cases ht : trn (rowM m s) c with
    | none => simp at h1 ⊢; omega
    | some t => have := rch_len m w t (k + 1); simp at h1 this ⊢; omega
theorem ends_any (v vb : Value) (m : Mc) (bs : List Nat) (i : Nat) (w : World) (hm : McIn w v m) (hv : Vld m) (hsm : McSm m) (h1 : 1 ≤ m.ed.length) (h2 : m.ed.length ≤ 2000) (hb : ByIn w vb bs) (hbl : bs.length ≤ 900000) (hby : ∀ b ∈ bs, b < 256) (hi : i ≤ bs.length) :
    Calls Tryz.prog 30 #[v, vb, .int .i64 (i : Int)] w (RhPost (rchF m (bs.drop i) 0 i) w) := by
  obtain ⟨ve, va, rfl, he, ha⟩ := id hm
  obtain ⟨Ae, ce, rfl, hce1, hce2⟩ := he.form
  obtain ⟨Aa, ca, rfl, hca1, hca2⟩ := ha.form
  obtain ⟨Ab, cb, rfl, hcb, hbc⟩ := id hb
  have HV := Lib.hid fun W (h : Below w.heap.size w W) => mvalid_any _ m W (hm.later h) hv hsm h1 h2
  have HRh := Lib.hid fun W (h : Below w.heap.size w W) => reach_any _ _ m bs i W (hm.later h) hv hsm h1 (hb.later h) hbl hby hi
  have hb0 : Below w.heap.size w (w.alloc (.cells #[.slice Ae m.ed.length ce, .slice Aa m.ac.length ca] 34)) := (Below.refl _ _).alloc (Nat.le_refl _) _
  have HB0 := Lib.hid hb0
  have hrow := heap_alloc_new w (.cells #[.slice Ae m.ed.length ce, .slice Aa m.ac.length ca] 34)
  have HROW := Lib.hid hrow
  obtain ⟨n, hn⟩ : ∃ n, m.ed.length = n := ⟨_, rfl⟩
  obtain ⟨na, hna⟩ : ∃ n, m.ac.length = n := ⟨_, rfl⟩
  obtain ⟨L, hL⟩ : ∃ n, bs.length = n := ⟨_, rfl⟩
  have t1 : decide ((i : Int) < 0) = false := decide_eq_false (by omega)
  have t2 : decide ((L : Int) < (i : Int)) = false := decide_eq_false (by omega)
  have t2n : decide (L < i) = false := decide_eq_false (by omega)
  rw [hn, hna] at HV HRh HB0 HROW
  rw [hL] at HRh
  rw [hn, hna, hL]
  obtain ⟨R, hR⟩ : ∃ R, rchF m (bs.drop i) 0 i = R := ⟨_, rfl⟩
  rw [hR] at HRh
  have hri : RhPost (rchF m (bs.drop i) 0 i) w = RhPost R w := by rw [hR]
  rw [hri]
  clear hm hv hsm h1 h2 hb hbl hby hi he ha hbc hrow hb0 hn hna hL hR hri
  go_enter Tryz.func30, Tryz.ntmps30
  go_wp2_with fail
  refine (HV.out _ HB0.out).mono ?_
  rintro e w1 ⟨rfl, hb1⟩
  have hs1 := hb1.size
  simp only [World.size_alloc] at hs1
  have hbx := (hb1.block w.heap.size (by simp)).trans HROW.out
  obtain ⟨x0, x1⟩ : w1.cell? ⟨w.heap.size, 0, none⟩ = some (.slice Ae n ce) ∧ w1.cell? ⟨w.heap.size, 1, none⟩ = some (.slice Aa na ca) := by
    constructor <;> (rw [cell_of_row _ _ _ _ _ _ hbx]; rfl)
  have HB1 := Lib.hid (HB0.out.trans (hb1.mono (by simp)))
  have hws : w.heap.size < w1.heap.size := by omega
  clear hb1 hbx
  go_wp2_with fail
  refine (HRh.out _ HB1.out).mono ?_
  rintro e w2 ⟨rv, rfl, hown, hb2⟩
  have HX := Lib.hid (And.intro (hown.mono (show w.heap.size ≤ w1.heap.size by omega)) (HB1.out.trans (hb2.mono (by omega))))
  clear hown hb2
  go_wp2_with fail
  go_ret
  exact ⟨_, rfl, HX.out.1, HX.out.2⟩
theorem accepts_any (v vb : Value) (m : Mc) (bs : List Nat) (w : World) (hm : McIn w v m) (hv : Vld m) (hsm : McSm m) (h1 : 1 ≤ m.ed.length) (h2 : m.ed.length ≤ 2000) (hb : ByIn w vb bs) (hbl : bs.length ≤ 900000) (hby : ∀ b ∈ bs, b < 256) :
    Calls Tryz.prog 25 #[v, vb] w fun e w' => e = .returned (.bool (acF m bs 0)) ∧ Below w.heap.size w w' := by
  obtain ⟨ve, va, rfl, he, ha⟩ := id hm
  obtain ⟨Ae, ce, rfl, hce1, hce2⟩ := he.form
  obtain ⟨Aa, ca, rfl, hca1, hca2⟩ := ha.form
  obtain ⟨Ab, cb, rfl, hcb, hbc⟩ := id hb
  have HRh := Lib.hid fun W (h : Below w.heap.size w W) => ends_any _ _ m bs 0 W (hm.later h) hv hsm h1 h2 (hb.later h) hbl hby (Nat.zero_le _)
  have hb0 : Below w.heap.size w (w.alloc (.cells #[.slice Ae m.ed.length ce, .slice Aa m.ac.length ca] 34)) := (Below.refl _ _).alloc (Nat.le_refl _) _
  have HB0 := Lib.hid hb0
  have HL0 := Lib.hid (rch_last m bs 0 0)
  obtain ⟨n, hn⟩ : ∃ n, m.ed.length = n := ⟨_, rfl⟩
  obtain ⟨na, hna⟩ : ∃ n, m.ac.length = n := ⟨_, rfl⟩
  obtain ⟨L, hL⟩ : ∃ n, bs.length = n := ⟨_, rfl⟩
  obtain ⟨q, hq⟩ : ∃ q, acF m bs 0 = q := ⟨_, rfl⟩
  have HRL := Lib.hid (rch_len m bs 0 0)
  rw [hn, hna] at HRh HB0
  rw [List.drop_zero, hL] at HRh
  rw [hL, hq, Nat.zero_add] at HL0
  rw [hL] at HRL hbl
  rw [hn, hna, hL, hq]
  obtain ⟨R, hR⟩ : ∃ R, rchF m bs 0 0 = R := ⟨_, rfl⟩
  rw [hR] at HRh HL0 HRL
  clear hm hv hsm h1 h2 hb hby he ha hbc hb0 hn hna hL hR hq
  go_enter Tryz.func25, Tryz.ntmps25
  go_wp2_with fail
  refine (HRh.out _ HB0.out).mono ?_
  rintro e w1 ⟨rv, rfl, hown, hb1⟩
  obtain ⟨A1, c1, e1, hc1, hor⟩ := hown.cells inC_E
  subst e1
  have HB1 := Lib.hid (HB0.out.trans (hb1.mono (by simp)))
  clear hown hb1
  by_cases hR0 : R.length = 0
  · have hRn : R = [] := List.length_eq_zero_iff.1 hR0
    subst hRn
    have HQ : Hid (false = q) := by
      cases q with
      | false => rfl
      | true => have := HL0.out.2 rfl; simp at this
    have t1 : decide (0 < ([] : List Nat).length) = false := by decide
    simp only [List.length_nil] at *
    go_wp2_with fail
    go_ret
    exact ⟨ret_bool HQ.out, HB1.out⟩
  · obtain ⟨p, hp⟩ : ∃ p, R.length = p + 1 := ⟨R.length - 1, by omega⟩
    obtain ⟨g, rfl, hgB, hgl, hcs⟩ := hor.resolve_left (by intro e; rw [e] at hR0; simp at hR0)
    have hcp := (hcs p (by omega) 0 (by decide)).1
    have hgt : R.getLast? = some (R[p]'(by omega)) := by
      rw [List.getLast?_eq_getElem?, show R.length - 1 = p by omega, List.getElem?_eq_getElem]
    obtain ⟨x, hx⟩ : ∃ x, R[p]'(by omega) = x := ⟨_, rfl⟩
    rw [hx] at hgt hcp
    rw [Nat.mul_one, Nat.add_zero] at hcp
    have hcp2 : w1.cell? ⟨g, p, none⟩ = some (.int .i64 (x : Int)) := by rw [hcp]; rfl
    have HQ : Hid (((x : Int) == (L : Int)) = q) := by
      have h3 := HL0.out
      rw [hgt] at h3
      cases q with
      | false =>
        rw [beq_eq_false_iff_ne]
        intro e
        have : x = L := by omega
        have := h3.1 (by rw [this])
        cases this
      | true =>
        have := h3.2 rfl
        injection this with this
        show ((x : Int) == (L : Int)) = true
        rw [this]; exact beq_self_eq_true _
    obtain ⟨nr, hnr⟩ : ∃ k, R.length = k := ⟨_, rfl⟩
    have hnp : nr = p + 1 := by omega
    have hnl : nr ≤ 1000000 := by have := HRL.out; omega
    have hplt : p < nr := by omega
    have hpn : decide (p < nr) = true := decide_eq_true hplt
    have hw : IntKind.i64.wrap ((nr : Int) - 1) = (p : Int) := by rw [IntWalk.i64_in _ (by omega)]; omega
    have hw2 : (nr : Int) - 1 = (p : Int) := by omega
    have t1 : decide ((0 : Int) < (nr : Int)) = true := decide_eq_true (by omega)
    have t1n : decide (0 < nr) = true := decide_eq_true (by omega)
    rw [hnr]
    clear hcs hor hR0 hcp hgt hx hp hnr hnp
    go_wp2_with fail
    go_ret
    exact ⟨ret_bool HQ.out, HB1.out⟩
end Go.Proofs.YtjhmipidmpmlmaaGreatDoor
