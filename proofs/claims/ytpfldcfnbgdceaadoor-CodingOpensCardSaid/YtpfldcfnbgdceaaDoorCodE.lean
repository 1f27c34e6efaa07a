/- Walk of the reference's decoder of the fourth coding. -/
import Derived.Test.YtpfldcfnbgdceaaDoorCodD
namespace Go.Proofs.YtpfldcfnbgdceaaDoor
set_option linter.unusedVariables false
set_option linter.unusedSimpArgs false
set_option maxRecDepth 100000
open Go.RowKit
set_option maxHeartbeats 4000000 in
theorem unescape_ref (ad : Addr) (c : Nat) (s : ByteArray) (w : World) (hs : s.size ≤ 1000000) (hrb : BI ad s w) : Calls Tryd.prog 62 #[.slice (some ad) s.size c] w (DecPost (decEsc (bl s) []) w) := by
  obtain ⟨i0, hi, hz0, hz1, hz2⟩ := info_parts info_u8
  go_enter Tryd.func62, Tryd.ntmps62
  go_wp2
  go_loopw [4, 5] (fun v i wr => ∃ (k : Nat) (l : List UInt8), k ≤ s.size ∧ i = .int .i64 (k : Int) ∧ l.length ≤ k ∧ OB 5 w.heap.size v l wr ∧ Below w.heap.size w wr ∧ decEsc ((bl s).drop k) l = decEsc (bl s) []) (fun _ i _ => s.size - (intOf i).toNat)
  case atStart => exact ⟨0, [], by omega, rfl, by simp, OB.nil_ _ _ _, Below.refl _ _, rfl⟩
  case round =>
    obtain ⟨k, l, hk, rfl, hl, hown, hbel, hrel⟩ := hrel
    have HR := Lib.hid hrel; clear hrel
    have hrw := hrb.later hbel
    by_cases hlt : k < s.size
    · have hd : decide ((k : Int) < s.size) = true := decide_eq_true (by omega)
      obtain ⟨u, c, hus, hcu, hc0, hc1, hix⟩ := hrw.byte k hlt
      by_cases h92 : c = 92
      · by_cases hend : k + 1 = s.size
        · have HF := Lib.hid (esc_end s k l u c hend hus hcu h92 _ HR)
          have hd2 : decide ((s.size : Int) ≤ (k : Int) + 1) = true := decide_eq_true (by omega)
          clear hcu HR
          subst h92
          clear hend
          go_wp2
          go_ret2
          exact DecPost.none_ HF.out hbel
        · have hd2 : decide ((s.size : Int) ≤ (k : Int) + 1) = false := decide_eq_false (by omega)
          obtain ⟨v, d, hvs, hdv, hd0, hd1, hix2⟩ := hrw.byteS (k) (by omega)
          have HS := esc_esc s k l u v c d (by omega) hus hcu h92 hvs _ HR
          clear hcu
          subst h92
          rcases (show d = 110 ∨ d = 114 ∨ d = 116 ∨ d = 92 ∨ d = 120 ∨ (d ≠ 110 ∧ d ≠ 114 ∧ d ≠ 116 ∧ d ≠ 92 ∧ d ≠ 120) by omega) with hq | hq | hq | hq | hq | ⟨q1, q2, q3, q4, q5⟩
          · have HV := Lib.hid (u8_of (n := 110) hdv (by decide) hq)
            clear hdv
            subst hq
            go_wp2_with (at_builtin; refine app_u8 Tryd.underlying23 hi hz0 hz1 hz2 _ _ _ _ _ (10 : UInt8) _ rfl rfl rfl rfl hown rfl (by omega) hbel.size ?_; intro v1 w3 hown3 hb3 _ _)
            go_roundw
            case rel =>
              have hs2 := HS.out
              rw [HV.out] at hs2
              exact ⟨k + 2, _, by omega, by go_num, by simp; omega, hown3, hbel.trans hb3, hs2.symm⟩
            case measure => simp [intOf]; omega
          · have HV := Lib.hid (u8_of (n := 114) hdv (by decide) hq)
            clear hdv
            subst hq
            go_wp2_with (at_builtin; refine app_u8 Tryd.underlying23 hi hz0 hz1 hz2 _ _ _ _ _ (13 : UInt8) _ rfl rfl rfl rfl hown rfl (by omega) hbel.size ?_; intro v1 w3 hown3 hb3 _ _)
            go_roundw
            case rel =>
              have hs2 := HS.out
              rw [HV.out] at hs2
              exact ⟨k + 2, _, by omega, by go_num, by simp; omega, hown3, hbel.trans hb3, hs2.symm⟩
            case measure => simp [intOf]; omega
          · have HV := Lib.hid (u8_of (n := 116) hdv (by decide) hq)
            clear hdv
            subst hq
            go_wp2_with (at_builtin; refine app_u8 Tryd.underlying23 hi hz0 hz1 hz2 _ _ _ _ _ (9 : UInt8) _ rfl rfl rfl rfl hown rfl (by omega) hbel.size ?_; intro v1 w3 hown3 hb3 _ _)
            go_roundw
            case rel =>
              have hs2 := HS.out
              rw [HV.out] at hs2
              exact ⟨k + 2, _, by omega, by go_num, by simp; omega, hown3, hbel.trans hb3, hs2.symm⟩
            case measure => simp [intOf]; omega
          · have HV := Lib.hid (u8_of (n := 92) hdv (by decide) hq)
            clear hdv
            subst hq
            go_wp2_with (at_builtin; refine app_u8 Tryd.underlying23 hi hz0 hz1 hz2 _ _ _ _ _ (92 : UInt8) _ rfl rfl rfl rfl hown rfl (by omega) hbel.size ?_; intro v1 w3 hown3 hb3 _ _)
            go_roundw
            case rel =>
              have hs2 := HS.out
              rw [HV.out] at hs2
              exact ⟨k + 2, _, by omega, by go_num, by simp; omega, hown3, hbel.trans hb3, hs2.symm⟩
            case measure => simp [intOf]; omega
          · have HV := Lib.hid (u8_of (n := 120) hdv (by decide) hq)
            have hs3 : Hid (decEsc (bl s) [] = (match twoAt ((bl s).drop (k + 2)) with | none => none | some x => decEsc ((bl s).drop (k + 4)) (l ++ [x]))) := by
              have hs2 := HS.out
              rw [HV.out] at hs2
              show decEsc (bl s) [] = _
              rw [hs2]
              show (match twoAt ((bl s).drop (k + 2)) with | none => none | some x => decEsc (((bl s).drop (k + 2)).drop 2) (l ++ [x])) = _
              rw [List.drop_drop]
            clear hdv
            subst hq
            by_cases hend : k + 3 < s.size
            · obtain ⟨v1, d, hvs, hdv, hd0, hd1, hix1⟩ := hrw.byteS (k + 1) (by omega)
              obtain ⟨v2, d', hvs', hdv', hd0', hd1', hix2⟩ := hrw.byteS (k + 2) (by omega)
              have hst := hs3.out
              rw [two_drop s (k + 2) (by omega), ← hvs.out, ← hvs'.out] at hst
              have HT := Lib.hid hst; clear hst
              have hb1 := hexv_bd d
              have hb2 := hexv_bd d'
              obtain ⟨x1, hx1⟩ : ∃ x, hexv d = x := ⟨_, rfl⟩
              obtain ⟨x2, hx2⟩ : ∃ x, hexv d' = x := ⟨_, rfl⟩
              have A1 := fun w => cdigit_ref d w hd0 hd1
              have A2 := fun w => cdigit_ref d' w hd0' hd1'
              rw [hx1] at hb1 A1
              rw [hx2] at hb2 A2
              have X1 := Lib.hid hx1; have X2 := Lib.hid hx2; clear hx1 hx2
              have hd2 : decide ((s.size : Int) ≤ (k : Int) + 1 + 2) = false := decide_eq_false (by omega)
              by_cases q1 : x1 < 0
              · have hfin : decEsc (bl s) [] = none := by have := HT.out; rw [twoB_none1 _ _ _ _ hdv X1 q1] at this; exact this
                have HF := Lib.hid hfin; clear hfin
                go_wp2_with (go_at_call 73; (first | (with_reducible show Calls _ _ #[Value.int IntKind.u8 d] _ _; refine (A1 _).mono ?_) | (with_reducible show Calls _ _ #[Value.int IntKind.u8 d'] _ _; refine (A2 _).mono ?_)); rintro e w1 ⟨rfl, rfl⟩)
                go_ret2
                exact DecPost.none_ HF.out hbel
              · by_cases q2 : x2 < 0
                · have hfin : decEsc (bl s) [] = none := by have := HT.out; rw [twoB_none2 _ _ _ _ hdv' X2 q2] at this; exact this
                  have HF := Lib.hid hfin; clear hfin
                  go_wp2_with (go_at_call 73; (first | (with_reducible show Calls _ _ #[Value.int IntKind.u8 d] _ _; refine (A1 _).mono ?_) | (with_reducible show Calls _ _ #[Value.int IntKind.u8 d'] _ _; refine (A2 _).mono ?_)); rintro e w1 ⟨rfl, rfl⟩)
                  go_ret2
                  exact DecPost.none_ HF.out hbel
                · obtain ⟨y, hy, hyt⟩ := twoB_some v1 v2 d d' x1 x2 _ hdv hdv' X1 X2 (by omega) (by omega) (by omega) (by omega) rfl
                  have HY := Lib.hid hyt; clear hyt
                  go_wp2_with (go_at_call 73; (first | (with_reducible show Calls _ _ #[Value.int IntKind.u8 d] _ _; refine (A1 _).mono ?_) | (with_reducible show Calls _ _ #[Value.int IntKind.u8 d'] _ _; refine (A2 _).mono ?_)); rintro e w1 ⟨rfl, rfl⟩)
                  have hownd := (show OB 5 w.heap.size _ l wr.drew from hown)
                  have hbeld := hbel.drew
                  have hz := hbeld.size
                  have hk1 : (0 : Int) ≤ (k : Int) + 1 + 1 := by omega
                  have hk2 : (0 : Int) ≤ (k : Int) + 1 + 2 := by omega
                  have hk3 : (k : Int) + 1 + 1 < s.size := by omega
                  have hw1 : IntKind.i64.wrap ((k : Int) + 1 + 1) = (k : Int) + 1 + 1 := IntWalk.i64_in _ (by omega)
                  have hn1 : ((k : Int) + 1 + 1).toNat = k + 2 := by omega
                  have hn2 : ((k : Int) + 1 + 2).toNat = k + 3 := by omega
                  have hw3 : IntKind.i64.wrap (x1 * 16) = x1 * 16 := IntWalk.i64_in _ (by omega)
                  obtain ⟨r, hr⟩ : ∃ r, bits .or .i64 (x1 * 16) x2 % 256 = r := ⟨_, rfl⟩
                  have hw4 : IntKind.u8.wrap (bits .or .i64 (x1 * 16) x2) = r := by rw [← hr]; first | rfl | simp [IntKind.wrap]
                  rw [hr] at hy
                  have hw2 : IntKind.i64.wrap ((k : Int) + 1 + 2) = (k : Int) + 1 + 2 := IntWalk.i64_in _ (by omega)
                  have hk4 : (k : Int) + 1 + 2 < s.size := by omega
                  go_region_held3 (fun w' => w'.cell? ⟨ad.block, ad.off + (k + 2), none⟩ = some (.int .u8 d) ∧ w'.cell? ⟨ad.block, ad.off + (k + 3), none⟩ = some (.int .u8 d'))
                    (first | go_keep | exact ⟨(World.cell?_of_block (a := ⟨ad.block, ad.off + (k + 2), none⟩) (hb3.block ad.block hrb.1)).trans hix1, (World.cell?_of_block (a := ⟨ad.block, ad.off + (k + 3), none⟩) (hb3.block ad.block hrb.1)).trans hix2⟩)
                    (first
                      | (go_at_call 73; (first | (with_reducible show Calls _ _ #[Value.int IntKind.u8 d] _ _; refine (A1 _).mono ?_) | (with_reducible show Calls _ _ #[Value.int IntKind.u8 d'] _ _; refine (A2 _).mono ?_)); rintro e w1 ⟨rfl, rfl⟩)
                      | (refine step_app_u8 Tryd.underlying23 hi hz0 hz1 hz2 _ _ _ l _ y _ (by rfl) (by rfl) (by rfl) (by rfl) hownd hy.out (by omega) hz ?_; intro gg cap w3 hown3 hb3))
                  go_wp2
                  go_roundw
                  case rel =>
                    have hs2 := HT.out
                    rw [HY.out] at hs2
                    exact ⟨k + 4, _, by omega, by go_num, by simp; omega, hown3, hbeld.trans hb3, hs2.symm⟩
                  case measure => simp [intOf]; omega
            · have hd2 : decide ((s.size : Int) ≤ (k : Int) + 1 + 2) = true := decide_eq_true (by omega)
              have hfin : decEsc (bl s) [] = none := by rw [hs3.out, twoAt_short s (k + 2) (by omega)]
              have HF := Lib.hid hfin; clear hfin
              go_wp2
              go_ret2
              exact DecPost.none_ HF.out hbel
          · have hs2 : decEsc (bl s) [] = none := by
              rw [HS.out]
              exact escO_none _ _ _ (u8_ne (n := 110) hdv (by decide) q1) (u8_ne (n := 114) hdv (by decide) q2) (u8_ne (n := 116) hdv (by decide) q3) (u8_ne (n := 92) hdv (by decide) q4) (u8_ne (n := 120) hdv (by decide) q5)
            have HF := Lib.hid hs2; clear hs2
            clear hdv
            go_wp2
            go_ret2
            exact DecPost.none_ HF.out hbel
      · have HS := esc_own s k l u c hlt hus hcu h92 _ HR
        go_wp2_with (at_builtin; refine app_u8 Tryd.underlying23 hi hz0 hz1 hz2 _ _ _ _ _ u _ rfl rfl rfl rfl hown hcu.out (by omega) hbel.size ?_; intro v1 w3 hown3 hb3 _ _)
        go_roundw
        case rel => exact ⟨k + 1, _, by omega, by go_num, by simp; omega, hown3, hbel.trans hb3, HS.out⟩
        case measure => simp [intOf]; omega
    · obtain rfl : k = s.size := by omega
      have hfin : decEsc (bl s) [] = some l := by rw [← HR.out, List.drop_eq_nil_of_le (by rw [size_list]; omega)]; rfl
      go_wp2
      go_ret2
      exact DecPost.some_ hfin hown hbel
end Go.Proofs.YtpfldcfnbgdceaaDoor
