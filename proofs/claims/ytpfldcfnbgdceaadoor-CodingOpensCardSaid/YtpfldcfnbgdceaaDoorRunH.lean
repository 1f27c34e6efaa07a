/- The walk of the reference's of: the runs of a coding. -/
import Derived.Test.YtpfldcfnbgdceaaDoorRunG
namespace Go.Proofs.YtpfldcfnbgdceaaDoor
set_option linter.unusedVariables false
set_option linter.unusedSimpArgs false
set_option maxRecDepth 100000
open Go.RowKit
def ofG (l : List UInt8) (c : Nat) (o : List Rn) (f t : Nat) : List Rn := o ++ addR l c f (cutR c l f t)
def ofR (c : Nat) (l : List UInt8) : List Rn := foldP (ofG l c) (scanP (belP c) l 0 0) []
def OfPost (o : List Rn) (w : World) (e : Ending) (w' : World) : Prop := ∃ v, e = .returned v ∧ w'.ownsRow w.heap.size 48 3 v o.length (cellsR o) ∧ o.length ≤ 65536 ∧ Below w.heap.size w w'
theorem own_later {B n : Nat} {T : TypeId} {v : Value} {xs : List Value} {k : Nat} {w w1 : World} (h : w.ownsRow B T k v n xs) (hb : Below w.heap.size w w1) : w1.ownsRow B T k v n xs := by
  refine ⟨h.1, ?_⟩
  rcases h.2 with h | ⟨g, cap, cur, rfl, hB, hg, rest⟩
  · exact .inl h
  · exact .inr ⟨g, cap, cur, rfl, hB, (hb.block g (Array.getElem?_eq_some_iff.1 hg).1).trans hg, rest⟩
theorem cutR_bd (c : Nat) (l : List UInt8) (f t : Nat) (h : f < t) (ht : t ≤ l.length) : f ≤ cutR c l f t ∧ cutR c l f t ≤ l.length := by
  unfold cutR
  split
  · unfold cut1; omega
  · split
    · unfold cut2
      split
      · rename_i h1
        have := congrArg List.length h1.2
        simp at this; omega
      · split
        · rename_i h1
          have := congrArg List.length h1.2
          simp at this; omega
        · omega
    · omega
theorem scan_end {p : Int → Bool} {l : List UInt8} {k m : Nat} (hkm : k < m) (hm : m ≤ l.length) (h : m = l.length ∨ ∃ h : m < l.length, p l[m].toNat = false) : scanP p (l.drop m) m k = (k, m) :: scanP p (l.drop m) m m := by
  rcases h with rfl | ⟨h1, h2⟩
  · rw [List.drop_eq_nil_of_le (Nat.le_refl _), scanP, if_pos hkm, scanP, if_neg (by omega)]
  · rw [scanP_no h1 h2, if_pos hkm, scanP_no h1 h2, if_neg (by omega)]
set_option maxRecDepth 100000 in
set_option maxHeartbeats 8000000 in
theorem of_any (c : Nat) (hc : vldC c = true) (A : Option Addr) (l : List UInt8) (cc : Nat) (w : World) (hA : BA A l cc w) (hl : l.length ≤ 65536) :
    Calls Tryd.prog 50 #[.int .i64 (c : Int), .slice A l.length cc] w (OfPost (ofR c l) w) := by
  have hc4 : c = 1 ∨ c = 2 ∨ c = 3 ∨ c = 4 := by unfold vldC at hc; simp at hc; omega
  obtain ⟨i0, hi, hz0, hz1, hz2⟩ := info_parts info_run
  have hlc := hA.1
  have HA := Lib.hid hA; clear hA
  have HC4 := Lib.hid hc4; clear hc4
  go_enter Tryd.func50, Tryd.ntmps50
  go_wp2
  go_loopw [5, 6] (fun v i wr => ∃ (k : Nat) (o : List Rn), k ≤ l.length ∧ i = .int .i64 (k : Int) ∧ wr.ownsRow w.heap.size 48 3 v o.length (cellsR o) ∧ o.length ≤ k ∧ Below w.heap.size w wr ∧ Hid (foldP (ofG l c) (scanP (belP c) (l.drop k) k k) o = ofR c l)) (fun _ i _ => l.length - (intOf i).toNat)
  case atStart => exact ⟨0, [], by omega, rfl, World.ownsRow_nil _ _ _ _, by simp, Below.refl _ _, rfl⟩
  case round =>
    obtain ⟨k, o, hk, rfl, hown, ho, hbel, HR⟩ := hrel
    by_cases hlt : k < l.length
    · have hd : decide ((k : Int) < l.length) = true := decide_eq_true (by omega)
      have hdn : decide (k < l.length) = true := decide_eq_true hlt
      obtain ⟨ad, rfl, had, hcs⟩ := HA.out.2.resolve_left (by omega)
      have hcW : ∀ j (h : j < l.length), wr.cell? (ad.add j) = some (.int .u8 l[j].toNat) := fun j hj => (World.cell?_of_block (by rw [Reads_block]; exact hbel.block _ had)).trans (hcs j hj)
      have HCW := Lib.hid hcW
      have hcl := hcW k hlt
      clear hcW
      cases hp : belP c l[k].toNat with
      | false =>
        have HS := HR.out
        rw [scanP_no hlt hp, if_neg (by omega)] at HS
        have HS2 := Lib.hid HS; clear HS HR
        have BB := fun w => belongs_any c hc (l[k].toNat : Int) w (by omega) (byte_lt _)
        rw [hp] at BB
        clear hp
        generalize (l[k].toNat : Int) = x at hcl BB
        go_wp2_with (go_at_call 67; refine (BB _).mono ?_; rintro e w1 ⟨rfl, rfl⟩)
        go_roundw
        case rel => exact ⟨k + 1, o, by omega, by go_num, hown, by omega, hbel, HS2⟩
        case measure => simp [intOf]; omega
      | true =>
        have HP := Lib.hid hp
        have BB := fun w => belongs_any c hc (l[k].toNat : Int) w (by omega) (byte_lt _)
        rw [hp] at BB
        clear hp
        generalize (l[k].toNat : Int) = x at hcl BB
        go_wp2_with (go_at_call 67; refine (BB _).mono ?_; rintro e w1 ⟨rfl, rfl⟩)
        clear BB hcl
        obtain ⟨W2, hW2⟩ : ∃ W2 : World, W2 = wr := ⟨_, rfl⟩
        obtain rfl := hW2
        go_loopw [7] (fun i wi => ∃ m : Nat, k ≤ m ∧ m ≤ l.length ∧ i = .int .i64 (m : Int) ∧ W2 = wi ∧ Hid (scanP (belP c) (l.drop k) k k = scanP (belP c) (l.drop m) m k)) (fun i _ => l.length - (intOf i).toNat)
        case atStart => exact ⟨k, by omega, by omega, rfl, rfl, rfl⟩
        case round =>
          obtain ⟨m, hkm, hml, rfl, rfl, HM⟩ := hrel
          by_cases hgo : ∃ h : m < l.length, belP c l[m].toNat = true
          · obtain ⟨hm2, hpm⟩ := hgo
            have hd2 : decide ((m : Int) < l.length) = true := decide_eq_true (by omega)
            have hd2n : decide (m < l.length) = true := decide_eq_true hm2
            have hcl := HCW.out m hm2
            have HS := HM.out
            rw [scanP_yes hm2 hpm] at HS
            have HS2 := Lib.hid HS; clear HS HM
            have BB := fun w => belongs_any c hc (l[m].toNat : Int) w (by omega) (byte_lt _)
            rw [hpm] at BB
            clear hpm
            generalize (l[m].toNat : Int) = x at hcl BB
            go_wp2_with (go_at_call 67; refine (BB _).mono ?_; rintro e w1 ⟨rfl, rfl⟩)
            go_roundw
            case rel => exact ⟨m + 1, by omega, by omega, by go_num, by first | rfl | trivial, HS2⟩
            case measure => simp [intOf]; omega
          · have hmk : k < m := by
              rcases Nat.lt_or_ge k m with h | h
              · exact h
              · exfalso; obtain rfl : m = k := by omega
                exact hgo ⟨hlt, HP.out⟩
            have hend : m = l.length ∨ ∃ h : m < l.length, belP c l[m].toNat = false := by
              by_cases h : m < l.length
              · refine .inr ⟨h, ?_⟩
                cases hq : belP c l[m].toNat with
                | false => rfl
                | true => exact absurd ⟨h, hq⟩ hgo
              · exact .inl (by omega)
            have HN : Hid (foldP (ofG l c) (scanP (belP c) (l.drop m) m m) (ofG l c o k m) = ofR c l) := by
              show _ = _
              rw [← HR.out, HM.out, scan_end hmk hml hend]; rfl
            have CUT := fun w hcs => cut_any c hc ad l cc k m (by omega) hml hl w hcs
            obtain ⟨hk1, hk2⟩ := cutR_bd c l k m hmk hml
            unfold ofG at HN
            obtain ⟨t', ht'⟩ : ∃ t', cutR c l k m = t' := ⟨_, rfl⟩
            rw [ht'] at CUT hk1 hk2
            have HNN := Lib.hid (show foldP (ofG l c) (scanP (belP c) (l.drop m) m m) (o ++ addR l c k t') = ofR c l by have := HN.out; rw [ht'] at this; exact this)
            have CUTW := CUT W2 HCW.out
            have HCUT := Lib.hid CUTW
            clear CUT CUTW HN HM HR ht' hgo
            have hhd : (decide ((m : Int) < l.length) = false ∧ decide (m < l.length) = false) ∨ (∃ (h : m < l.length) (x : Int), decide ((m : Int) < l.length) = true ∧ decide (m < l.length) = true ∧ W2.cell? (ad.add m) = some (.int .u8 x) ∧ ∀ w : World, Calls Tryd.prog 67 #[.int .i64 (c : Int), .int .u8 x] w fun e w' => e = .returned (.bool false) ∧ w = w') := by
              rcases hend with he | ⟨h1, h2⟩
              · exact .inl ⟨decide_eq_false (by omega), decide_eq_false (by omega)⟩
              · refine .inr ⟨h1, l[m].toNat, decide_eq_true (by omega), decide_eq_true h1, HCW.out m h1, fun w => ?_⟩
                have := belongs_any c hc (l[m].toNat : Int) w (by omega) (byte_lt _)
                rw [h2] at this
                exact this
            clear hend HP hd hdn
            have hbl : W2.heap.size ≥ w.heap.size := hbel.size
            have DEC := Decoded_sub (c : Int) hc ad l k t' (t' - k) (cc - k) rfl hk2 hl
            have hcne : ¬ cc = k := by omega
            have hcnt : t' ≤ cc := by omega
            have hcW : ∀ W', Below w.heap.size w W' → ∀ j (h : j < l.length), W'.cell? (ad.add j) = some (.int .u8 l[j].toNat) := fun W' hb j hj => (World.cell?_of_block (by rw [Reads_block]; exact hb.block _ had)).trans (hcs j hj)
            have hcv := fun W' hb => sub_conv (P := Tryd.prog) Tryd.underlying23 Tryd.underlying5 Tryd.underlying9 k t' (cc - k) hk2 (hcW W' hb)
            clear hcW
            have HCV := Lib.hid hcv
            clear hcv
            have HDEC := Lib.hid (DEC W2 (by omega) HCW.out)
            clear DEC hcs HCW
            by_cases hsh : t' < k + 8
            · have HFIN := Lib.hid (show foldP (ofG l c) (scanP (belP c) (l.drop m) m m) o = ofR c l by have := HNN.out; rw [addR_short hsh, List.append_nil] at this; exact this)
              have hd8 : decide ((8 : Int) ≤ (t' : Int) - k) = false := decide_eq_false (by omega)
              rcases hhd with ⟨hd3, hd3n⟩ | ⟨h3, x, hd3, hd3n, hcl, BB⟩
              all_goals (go_wp2_with (first | (go_at_call 67; refine (BB _).mono ?_; rintro e w1 ⟨rfl, rfl⟩) | (go_at_call 68; refine HCUT.out.mono ?_; rintro e w1 ⟨rfl, rfl⟩)))
              all_goals (refine ⟨⟨m, o, hml, rfl, hown, ?_, hbel, HFIN⟩, ?_⟩; omega; (simp [intOf]; omega))
            · have hd8 : decide ((8 : Int) ≤ (t' : Int) - k) = true := decide_eq_true (by omega)
              cases hx : decd c (sub l k t') with
              | none =>
                have hk : keepR c (sub l k t') = false := by unfold keepR; rw [hx]
                have HFIN := Lib.hid (show foldP (ofG l c) (scanP (belP c) (l.drop m) m m) o = ofR c l by have := HNN.out; rw [addR_no hsh hk, List.append_nil] at this; exact this)
                rw [hx] at HDEC
                clear hx hk
                rcases hhd with ⟨hd3, hd3n⟩ | ⟨h3, x, hd3, hd3n, hcl, BB⟩
                all_goals (go_wp2_with (first | (go_at_call 67; refine (BB _).mono ?_; rintro e w1 ⟨rfl, rfl⟩) | (go_at_call 68; refine HCUT.out.mono ?_; rintro e w1 ⟨rfl, rfl⟩) | (go_at_call 33; refine HDEC.out.mono ?_; rintro e W1 ⟨v1, he, hv1, hb1⟩; obtain rfl : e = .returned (.tuple #[v1, .bool false]) := he; obtain ⟨A1, n1, c1, rfl⟩ := hv1.form_)))
                all_goals (refine ⟨⟨m, o, hml, rfl, own_later hown hb1, ?_, hbel.trans (hb1.mono hbel.size), HFIN⟩, ?_⟩; omega; (simp [intOf]; omega))
              | some y =>
                rw [hx] at HDEC
                rcases HC4.out with hc1 | hc2 | hc4
                · have hk : keepR c (sub l k t') = true := by unfold keepR; rw [hx]; simp [hc1]
                  have HFIN := Lib.hid (show foldP (ofG l c) (scanP (belP c) (l.drop m) m m) (o ++ [(c, k, t')]) = ofR c l by have := HNN.out; rw [addR_yes hsh hk] at this; exact this)
                  clear hx hk
                  have hc1b : ((c : Int) == 1) = true := by simp [hc1]
                  clear hc1
                  rcases hhd with ⟨hd3, hd3n⟩ | ⟨h3, x, hd3, hd3n, hcl, BB⟩
                  all_goals (go_wp2_with (first | (go_at_call 67; refine (BB _).mono ?_; rintro e w1 ⟨rfl, rfl⟩) | (go_at_call 68; refine HCUT.out.mono ?_; rintro e w1 ⟨rfl, rfl⟩) | (go_at_call 33; refine HDEC.out.mono ?_; rintro e W1 ⟨v1, he, hv1, hb1⟩; obtain rfl : e = .returned (.tuple #[v1, .bool true]) := he; obtain ⟨A1, n1, c1, rfl⟩ := hv1.form_) | (at_builtin; refine app_run Tryd.underlying44 hi hz0 hz1 hz2 _ _ _ _ o (c, k, t') _ w.heap.size rfl rfl rfl rfl rfl (own_later hown hb1) (by omega) (Nat.le_trans hbel.size hb1.size) ?_; intro g2 p2 w2 hown2 hb2)))
                  · go_roundw
                    case rel => exact ⟨m, o ++ [(c, k, t')], hml, by first | rfl | go_num, hown2, by rw [List.length_append]; simp; omega, hbel.trans ((hb1.mono hbel.size).trans hb2), HFIN⟩
                    case measure => simp [intOf]; omega
                  · go_roundw
                    case rel => exact ⟨m, o ++ [(c, k, t')], hml, by first | rfl | go_num, hown2, by rw [List.length_append]; simp; omega, hbel.trans ((hb1.mono hbel.size).trans hb2), HFIN⟩
                    case measure => simp [intOf]; omega
                · have hk : keepR c (sub l k t') = true := by unfold keepR; rw [hx]; simp [hc2]
                  have HFIN := Lib.hid (show foldP (ofG l c) (scanP (belP c) (l.drop m) m m) (o ++ [(c, k, t')]) = ofR c l by have := HNN.out; rw [addR_yes hsh hk] at this; exact this)
                  clear hx hk
                  have hc1b : ((c : Int) == 1) = false := by simp [hc2]
                  have hc2b : ((c : Int) == 2) = true := by simp [hc2]
                  clear hc2
                  rcases hhd with ⟨hd3, hd3n⟩ | ⟨h3, x, hd3, hd3n, hcl, BB⟩
                  all_goals (go_wp2_with (first | (go_at_call 67; refine (BB _).mono ?_; rintro e w1 ⟨rfl, rfl⟩) | (go_at_call 68; refine HCUT.out.mono ?_; rintro e w1 ⟨rfl, rfl⟩) | (go_at_call 33; refine HDEC.out.mono ?_; rintro e W1 ⟨v1, he, hv1, hb1⟩; obtain rfl : e = .returned (.tuple #[v1, .bool true]) := he; obtain ⟨A1, n1, c1, rfl⟩ := hv1.form_) | (at_builtin; refine app_run Tryd.underlying44 hi hz0 hz1 hz2 _ _ _ _ o (c, k, t') _ w.heap.size rfl rfl rfl rfl rfl (own_later hown hb1) (by omega) (Nat.le_trans hbel.size hb1.size) ?_; intro g2 p2 w2 hown2 hb2)))
                  · go_roundw
                    case rel => exact ⟨m, o ++ [(c, k, t')], hml, by first | rfl | go_num, hown2, by rw [List.length_append]; simp; omega, hbel.trans ((hb1.mono hbel.size).trans hb2), HFIN⟩
                    case measure => simp [intOf]; omega
                  · go_roundw
                    case rel => exact ⟨m, o ++ [(c, k, t')], hml, by first | rfl | go_num, hown2, by rw [List.length_append]; simp; omega, hbel.trans ((hb1.mono hbel.size).trans hb2), HFIN⟩
                    case measure => simp [intOf]; omega
                · have hc1 : ¬ (c : Int) = 1 := by omega
                  have hc2 : ¬ (c : Int) = 2 := by omega
                  have hc1b : ((c : Int) == 1) = false := beq_eq_false_iff_ne.2 hc1
                  have hc2b : ((c : Int) == 2) = false := beq_eq_false_iff_ne.2 hc2
                  cases hyx : (y == sub l k t') with
                  | true =>
                    have hk : keepR c (sub l k t') = false := by unfold keepR; rw [hx]; rcases hc4 with rfl | rfl <;> simp [hyx]
                    have HFIN := Lib.hid (show foldP (ofG l c) (scanP (belP c) (l.drop m) m m) o = ofR c l by have := HNN.out; rw [addR_no hsh hk, List.append_nil] at this; exact this)
                    clear hx hk
                    rcases hhd with ⟨hd3, hd3n⟩ | ⟨h3, x, hd3, hd3n, hcl, BB⟩
                    all_goals (go_wp2_with (first | (go_at_call 67; refine (BB _).mono ?_; rintro e w1 ⟨rfl, rfl⟩) | (go_at_call 68; refine HCUT.out.mono ?_; rintro e w1 ⟨rfl, rfl⟩) | (go_at_call 33; refine HDEC.out.mono ?_; rintro e W1 ⟨v1, he, hv1, hb1⟩; obtain rfl : e = .returned (.tuple #[v1, .bool true]) := he; obtain ⟨A1, n1, c1, rfl⟩ := hv1.form_; have hv2 : OB 5 W2.heap.size (.slice A1 n1 c1) y W1 := hv1; have hcv1 := hv2.conv (P := Tryd.prog) (T := 23) (d := 9) Tryd.underlying23 Tryd.underlying5 Tryd.underlying9; have hcv2 := HCV.out W1 (hbel.trans (hb1.mono hbel.size)); have EQ := same_any _ _ _ _ W1 hcv1 hcv2; rw [hyx] at EQ) | (go_at_call 69; refine EQ.mono ?_; rintro e w1 ⟨rfl, rfl⟩)))
                    all_goals (refine ⟨⟨m, o, hml, rfl, own_later hown hb1, ?_, hbel.trans (hb1.mono hbel.size), HFIN⟩, ?_⟩; omega; (simp [intOf]; omega))
                  | false =>
                    have hk : keepR c (sub l k t') = true := by unfold keepR; rw [hx]; rcases hc4 with rfl | rfl <;> simp [hyx]
                    have HFIN := Lib.hid (show foldP (ofG l c) (scanP (belP c) (l.drop m) m m) (o ++ [(c, k, t')]) = ofR c l by have := HNN.out; rw [addR_yes hsh hk] at this; exact this)
                    clear hx hk
                    rcases hhd with ⟨hd3, hd3n⟩ | ⟨h3, x, hd3, hd3n, hcl, BB⟩
                    all_goals (go_wp2_with (first | (go_at_call 67; refine (BB _).mono ?_; rintro e w1 ⟨rfl, rfl⟩) | (go_at_call 68; refine HCUT.out.mono ?_; rintro e w1 ⟨rfl, rfl⟩) | (go_at_call 33; refine HDEC.out.mono ?_; rintro e W1 ⟨v1, he, hv1, hb1⟩; obtain rfl : e = .returned (.tuple #[v1, .bool true]) := he; obtain ⟨A1, n1, c1, rfl⟩ := hv1.form_; have hv2 : OB 5 W2.heap.size (.slice A1 n1 c1) y W1 := hv1; have hcv1 := hv2.conv (P := Tryd.prog) (T := 23) (d := 9) Tryd.underlying23 Tryd.underlying5 Tryd.underlying9; have hcv2 := HCV.out W1 (hbel.trans (hb1.mono hbel.size)); have EQ := same_any _ _ _ _ W1 hcv1 hcv2; rw [hyx] at EQ) | (go_at_call 69; refine EQ.mono ?_; rintro e w1 ⟨rfl, rfl⟩) | (at_builtin; refine app_run Tryd.underlying44 hi hz0 hz1 hz2 _ _ _ _ o (c, k, t') _ w.heap.size rfl rfl rfl rfl rfl (own_later hown hb1) (by omega) (Nat.le_trans hbel.size hb1.size) ?_; intro g2 p2 w2 hown2 hb2)))
                    · go_roundw
                      case rel => exact ⟨m, o ++ [(c, k, t')], hml, by first | rfl | go_num, hown2, by rw [List.length_append]; simp; omega, hbel.trans ((hb1.mono hbel.size).trans hb2), HFIN⟩
                      case measure => simp [intOf]; omega
                    · go_roundw
                      case rel => exact ⟨m, o ++ [(c, k, t')], hml, by first | rfl | go_num, hown2, by rw [List.length_append]; simp; omega, hbel.trans ((hb1.mono hbel.size).trans hb2), HFIN⟩
                      case measure => simp [intOf]; omega
    · obtain rfl : k = l.length := by omega
      have HS := HR.out
      rw [List.drop_eq_nil_of_le (Nat.le_refl _), scanP, if_neg (by omega)] at HS
      have hd : decide ((l.length : Int) < l.length) = false := decide_eq_false (by omega)
      have hdn : decide (l.length < l.length) = false := decide_eq_false (by omega)
      have HPO : OfPost (ofR c l) w (.returned u5) wr := ⟨u5, rfl, by rw [← HS]; exact hown, by rw [← HS]; show o.length ≤ _; omega, hbel⟩
      go_wp2
      go_ret
      exact HPO
end Go.Proofs.YtpfldcfnbgdceaaDoor
