/- The law CodingRuns. -/
import Derived.Deep.RegionHeld3
import Derived.Test.YtpfldcfnbgdceaaDoorRunM
import Derived.Test.YtpfldcfnbgdceaaDoorAwk1
import Derived.Test.YtpfldcfnbgdceaaDoorPlain1
namespace Go.Proofs.YtpfldcfnbgdceaaDoor
set_option linter.unusedVariables false
set_option linter.unusedSimpArgs false
set_option maxRecDepth 100000
open Go.RowKit
theorem app_none {w : World} {ops : Array Oper} {rest : List Oper} {o : Oper} {a : Act} {Q : Exit → Act → World → Prop} (i j : Nat) (v : Value) (l : List UInt8) (B : Nat)
    (hgd : o.guard = none) (ho : o.op = .call { callee := .builtin .append, args := #[.tmp i, .tmp j], argTypes := #[23, 23] })
    (hs : a.tmps[i]?.getD undef = v) (hx : a.tmps[j]?.getD undef = .slice none 0 0) (hown : OB 5 B v l w) (h : wpList Tryd.prog ops Q rest (a.put o.dst v) w) :
    wpList Tryd.prog ops Q (o :: rest) a w := by
  obtain ⟨dst, op, ty, pos, after, guard⟩ := o
  dsimp only at hgd ho h ⊢
  subst hgd ho
  refine wpList_plain rfl fun K hK => ?_
  have hk := hK _ _ h
  clear hK h
  rcases hown.2 with ⟨rfl, h0⟩ | ⟨g, cap, cur, rfl, hB, hg, hle, hcap, hcur, htk⟩
  · clear hown
    go_simp
    exact hk
  · have hle2 : l.length + 0 ≤ cap := hle
    clear hown htk
    go_simp
    exact hk
/-- 'own = append(own, row...)' of a row of one's own, a nil one too. -/
theorem app_ob {i0 : TypeInfo} (hi : Tryd.prog.info? 5 = some i0) (hz0 : i0.zero = some (.int .u8 0)) (hz1 : i0.size = 1) (hz2 : i0.bytes = 1)
    {w : World} {ops : Array Oper} {rest : List Oper} {o : Oper} {a : Act} {Q : Exit → Act → World → Prop} (i j : Nat) (v u : Value) (l r : List UInt8) (B B' : Nat)
    (hgd : o.guard = none) (ho : o.op = .call { callee := .builtin .append, args := #[.tmp i, .tmp j], argTypes := #[23, 23] })
    (hs : a.tmps[i]?.getD undef = v) (hx : a.tmps[j]?.getD undef = u) (hown : OB 5 B v l w) (hu : OB 5 B' u r w) (hl : l.length + r.length < 1000000000) (hB : B ≤ w.heap.size)
    (h : ∀ v' w1, OB 5 B v' (l ++ r) w1 → Below B w w1 → wpList Tryd.prog ops Q rest (a.put o.dst v') w1) :
    wpList Tryd.prog ops Q (o :: rest) a w := by
  rcases hu.2 with ⟨rfl, h0⟩ | ⟨g, cap, cur, rfl, hB', hg, hle, hcap, hcur, htk⟩
  · obtain rfl := List.length_eq_zero_iff.1 h0
    rw [List.append_nil] at h
    exact app_none i j v l B hgd ho hs hx hown (h v w hown (Below.refl _ _))
  · refine app_row Tryd.underlying23 hi hz0 hz1 hz2 (.tmp i) (.tmp j) v l r g cap B hgd ho (by simpa [Act.eval] using hs) (by simpa [Act.eval] using hx) hown ?_ hl hB h
    intro k hk
    have := World.ownsRow.cellAt hu k (by simpa using hk)
    rw [this]; simp [hk]
theorem BA.of_BIn {A : Option Addr} {n c : Nat} {l : List UInt8} {w : World} (h : BIn w.heap.size w (.slice A n c) l) : n = l.length ∧ BA A l c w := by
  obtain ⟨A', n', c', e, hn, hc, hcell⟩ := h
  injection e with e1 e2 e3
  subst e1 e2 e3
  subst hn
  exact ⟨rfl, hc, hcell⟩
set_option maxRecDepth 100000 in
set_option maxHeartbeats 8000000 in
theorem runs_holds (A : Option Addr) (n c : Nat) (A1 : Option Addr) (n1 c1 : Nat) (w : World) (ht : TapeArg A n w) (hv1 : ∃ l, BIn w.heap.size w (.slice A1 n1 c1) l ∧ n1 ≤ maxLen) :
    Calls Tryd.prog 6 #[.slice A n c, .slice A1 n1 c1] w fun e w' => e = .returned (.bool true) ∧ Below w.heap.size w w' := by
  obtain ⟨l1, hB1, hm1⟩ := hv1
  have h0 := tape_new (c := c) ht
  have hb0 := (Below.refl w.heap.size w).alloc (Nat.le_refl _) (.cells #[.slice A n c, .int .i64 0] 26)
  generalize hw0 : w.alloc (.cells #[.slice A n c, .int .i64 0] 26) = w0 at h0 hb0
  have HW0 := Lib.hid hw0
  obtain ⟨i0, hi, hz0, hz1, hz2⟩ := info_parts info_u8
  go_enter Tryd.func6, Tryd.ntmps6
  go_wp2_with fail
  clear hw0
  refine (next_any w.heap.size _ _ (by omega) (by omega) h0).mono ?_
  rintro e w1 ⟨r, rfl, hr0, hr1, ht1, hf1⟩
  obtain ⟨r, rfl⟩ := Int.eq_ofNat_of_zero_le hr0
  go_wp2_with fail
  have hs0 : w0.heap.size = w.heap.size + 1 := by rw [← HW0.out]; simp
  go_loopw [6, 7] (fun v kv wr => ∃ (k : Nat) (lo : List UInt8), k ≤ 3 ∧ kv = .int .i64 (k : Int) ∧ OB 5 w0.heap.size v lo wr ∧ lo.length ≤ (3 - k) * 100 ∧ TapeOK w.heap.size wr ∧ Fr w.heap.size w0 wr) (fun _ kv _ => (intOf kv).toNat)
  case atStart => exact ⟨r, [], by omega, rfl, OB.nil_ _ _ _, by simp, ht1, hf1⟩
  case round =>
    obtain ⟨k, lo, hk, rfl, hown, hlo, ht2, hf2⟩ := hrel
    by_cases hk0 : 0 < k
    · have hd : decide ((0 : Int) < (k : Int)) = true := decide_eq_true (by omega)
      have hdn : decide (0 < k) = true := decide_eq_true hk0
      go_wp2_with fail
      refine (next_any w.heap.size _ _ (by omega) (by omega) ht2).mono ?_
      rintro e w3 ⟨r3, rfl, hr3, hr3', ht3, hf3⟩
      obtain ⟨r3, rfl⟩ := Int.eq_ofNat_of_zero_le hr3
      have hown3 := hown.fr hf3 (by omega)
      have hF3 := hf2.trans hf3
      clear hown hf2 ht2
      go_wp2_with fail
      refine (bytes_any w.heap.size r3 _ (by omega) ht3).mono ?_
      rintro e w4 ⟨v4, l4, rfl, hl4, hv4, ht4, hf4⟩
      obtain ⟨A4, n4, c4, rfl⟩ := hv4.form_
      have hown4 := hown3.fr hf4 (by omega)
      have hF4 := hF3.trans hf4
      clear hown3 hF3 hf3 hf4 ht3
      go_wp2_with (at_builtin; refine app_ob hi hz0 hz1 hz2 17 21 _ _ _ _ _ _ rfl rfl rfl rfl hown4 hv4 (by omega) hF4.size ?_; intro v5 w5 hown5 hb5)
      have ht5 := ht4.below' hb5 (by omega)
      have hF5 := hF4.then hb5
      clear hown4 hF4 ht4 hv4
      refine (between_any w.heap.size 1 4 _ (by omega) (by omega) (by omega) ht5).mono ?_
      rintro e w6 ⟨r6, rfl, hr6, hr6', ht6, hf6⟩
      have hown6 := hown5.fr hf6 (by omega)
      have hF6 := hF5.trans hf6
      clear hown5 hF5 hf6 ht5 hb5
      go_wp2_with fail
      refine (next_any w.heap.size _ _ (by omega) (by omega) ht6).mono ?_
      rintro e w7 ⟨r7, rfl, hr7, hr7', ht7, hf7⟩
      obtain ⟨r7, rfl⟩ := Int.eq_ofNat_of_zero_le hr7
      have hown7 := hown6.fr hf7 (by omega)
      have hF7 := hF6.trans hf7
      clear hown6 hF6 hf7 ht6
      go_wp2_with fail
      refine (bytes_any w.heap.size r7 _ (by omega) ht7).mono ?_
      rintro e w8 ⟨v8, l8, rfl, hl8, hv8, ht8, hf8⟩
      have hown8 := hown7.fr hf8 (by omega)
      have hF8 := hF7.trans hf8
      clear hown7 hF7 hf8 ht7
      go_wp2_with fail
      refine (Encoded_ref r6 (by unfold vldC; simp; omega) v8 l8 _ (by omega) (BIn.of_OB hv8)).mono ?_
      rintro e w9 ⟨v9, rfl, hv9, hb9⟩
      obtain ⟨l9, hl9⟩ : ∃ x, encd r6 l8 = x := ⟨_, rfl⟩
      have hlen9 := encd_len r6 l8
      rw [hl9] at hv9 hlen9
      clear hl9
      obtain ⟨A9, n9, c9, rfl⟩ := hv9.form_
      have hown9 := hown8.below hb9
      have hF9 := hF8.trans (Fr.of_below (b := w.heap.size) hb9)
      have ht9 := ht8.below hb9
      clear hown8 hF8 ht8 hv8 hb9
      go_wp2_with (at_builtin; refine app_ob hi hz0 hz1 hz2 22 29 _ _ _ _ _ _ rfl rfl rfl rfl hown9 hv9 (by simp; omega) hF9.size ?_; intro v10 w10 hown10 hb10)
      have ht10 := ht9.below' hb10 (by omega)
      have hF10 := hF9.then hb10
      clear hown9 hF9 ht9 hv9 hb10
      refine (next_any w.heap.size _ _ (by omega) (by omega) ht10).mono ?_
      rintro e w11 ⟨r11, rfl, hr11, hr11', ht11, hf11⟩
      obtain ⟨r11, rfl⟩ := Int.eq_ofNat_of_zero_le hr11
      have hown11 := hown10.fr hf11 (by omega)
      have hF11 := hF10.trans hf11
      clear hown10 hF10 hf11 ht10
      go_wp2_with fail
      refine (bytes_any w.heap.size r11 _ (by omega) ht11).mono ?_
      rintro e w12 ⟨v12, l12, rfl, hl12, hv12, ht12, hf12⟩
      obtain ⟨A12, n12, c12, rfl⟩ := hv12.form_
      have hown12 := hown11.fr hf12 (by omega)
      have hF12 := hF11.trans hf12
      clear hown11 hF11 hf12 ht11
      go_wp2_with (at_builtin; refine app_ob hi hz0 hz1 hz2 31 35 _ _ _ _ _ _ rfl rfl rfl rfl hown12 hv12 (by simp; omega) hF12.size ?_; intro v13 w13 hown13 hb13)
      have ht13 := ht12.below' hb13 (by omega)
      have hF13 := hF12.then hb13
      go_roundw
      case rel => exact ⟨k - 1, _, by omega, by go_num, hown13, by simp; omega, ht13, hF13⟩
      case measure => simp [intOf]; omega
    · obtain rfl : k = 0 := by omega
      have hbF := hb0.trans (hf2.below (Nat.le_refl _) hb0.size)
      have hlo' : lo.length ≤ 300 := hlo
      obtain ⟨Ao, no, co, rfl⟩ := hown.form_
      obtain ⟨rfl, hBA⟩ := BA.of_BIn (BIn.of_OB hown)
      obtain ⟨o, ho, hR⟩ := two_runs lo (by unfold maxLen; omega)
      have hB2 := hB1.later hbF
      obtain ⟨rfl, hBB⟩ := BA.of_BIn hB2
      obtain ⟨o2, ho2, hR2⟩ := two_runs l1 hm1
      have HR := Lib.hid hR; have HO := Lib.hid ho; have HBA := Lib.hid hBA; have HR2 := Lib.hid hR2; have HO2 := Lib.hid ho2; have HBB := Lib.hid hBB
      clear hR ho hBA hR2 ho2 hBB hB1 hB2 hown hlo hlo' ht2 hf2 HW0 hr0 hr1 hs0 ht1 hf1 h0
      obtain ⟨W2, rfl⟩ : ∃ W2 : World, W2 = wr := ⟨_, rfl⟩
      by_cases h3 : 3000 < l1.length
      · have hd : decide ((3000 : Int) < (l1.length : Int)) = true := decide_eq_true (by omega)
        go_wp2_with fail
        refine ((HR.out _ _).1 _ HBA.out).mono ?_
        rintro e w3 ⟨va, rfl, hva, hb3⟩
        go_wp2_with fail
        refine ((HR.out _ _).2 _ (HBA.out.later hb3)).mono ?_
        rintro e w4 ⟨vb, rfl, hvb, hb4⟩
        go_wp2_with fail
        refine (same_runs va vb o _ (hva.later hb4 (Nat.le_refl _)) hvb (by have := HO.out; omega)).mono ?_
        rintro e w5 ⟨rfl, hb5⟩
        have hbG := ((hbF.trans (hb3.mono hbF.size)).trans (hb4.mono (Nat.le_trans hbF.size hb3.size))).trans (hb5.mono (Nat.le_trans (Nat.le_trans hbF.size hb3.size) hb4.size))
        clear hb3 hb4 hb5 hva hvb
        go_wp2_with (go_at_call 14; refine (awake1_any _).mono ?_; rintro e w' ⟨rfl, hb⟩)
        go_ret
        exact ⟨rfl, hbG.trans (hb.mono hbG.size)⟩
      · have hd : decide ((3000 : Int) < (l1.length : Int)) = false := decide_eq_false (by omega)
        go_wp2_with fail
        refine ((HR.out _ _).1 _ HBA.out).mono ?_
        rintro e w3 ⟨va, rfl, hva, hb3⟩
        go_wp2_with fail
        refine ((HR.out _ _).2 _ (HBA.out.later hb3)).mono ?_
        rintro e w4 ⟨vb, rfl, hvb, hb4⟩
        go_wp2_with fail
        refine (same_runs va vb o _ (hva.later hb4 (Nat.le_refl _)) hvb (by have := HO.out; omega)).mono ?_
        rintro e w5 ⟨rfl, hb5⟩
        have HBC := Lib.hid (((HBB.out.later hb3).later hb4).later hb5)
        have hbG := ((hbF.trans (hb3.mono hbF.size)).trans (hb4.mono (Nat.le_trans hbF.size hb3.size))).trans (hb5.mono (Nat.le_trans (Nat.le_trans hbF.size hb3.size) hb4.size))
        clear hb3 hb4 hb5 hva hvb
        go_wp2_with fail
        refine ((HR2.out _ _).1 _ HBC.out).mono ?_
        rintro e w6 ⟨vc, rfl, hvc, hb6⟩
        go_wp2_with fail
        refine ((HR2.out _ _).2 _ (HBC.out.later hb6)).mono ?_
        rintro e w7 ⟨vd, rfl, hvd, hb7⟩
        go_wp2_with fail
        refine (same_runs vc vd o2 _ (hvc.later hb7 (Nat.le_refl _)) hvd (by have := HO2.out; omega)).mono ?_
        rintro e w8 ⟨rfl, hb8⟩
        have hbH := ((hbG.trans (hb6.mono hbG.size)).trans (hb7.mono (Nat.le_trans hbG.size hb6.size))).trans (hb8.mono (Nat.le_trans (Nat.le_trans hbG.size hb6.size) hb7.size))
        clear hb6 hb7 hb8 hvc hvd
        go_wp2_with (go_at_call 14; refine (awake1_any _).mono ?_; rintro e w' ⟨rfl, hb⟩)
        go_ret
        exact ⟨rfl, hbH.trans (hb.mono hbH.size)⟩
end Go.Proofs.YtpfldcfnbgdceaaDoor
