/- Walks of the decoders of the third and the fourth coding. · The second coding: the values of its signs; groups of four signs, in plain words. · Walks of the code's decoder of the second coding. · Walks of the code's decoder of the second coding, joined. -/
import Derived.Test.YthmpcdjhighhgaaGreatDoorY05
import Derived.Test.YthmpcdjhighhgaaGreatDoorY04
import Derived.Test.YthmpcdjhighhgaaGreatDoorY02
namespace Go.Proofs.YthmpcdjhighhgaaGreatDoor
set_option linter.unusedVariables false
set_option linter.unusedSimpArgs false
set_option maxRecDepth 100000
open Go.RowKit
theorem decPct_two (r o : List UInt8) : decPct (37 :: r) o = match twoAt r with | none => none | some x => decPct (r.drop 2) (o ++ [x]) := by
  match r with
  | [] => rfl
  | [_] => rfl
  | a :: b :: r' => rfl
theorem decPct_own (c : UInt8) (r o : List UInt8) (h : c ≠ 37) : decPct (c :: r) o = decPct r (o ++ [c]) := by
  match r with
  | [] => exact if_neg h
  | [_] => exact if_neg h
  | a :: b :: r' => exact if_neg h
theorem u8_of {u : UInt8} {c : Int} {n : Nat} (hc : Hid (c = u.toNat)) (hn : n < 256) (h : c = n) : u = UInt8.ofNat n := by
  have := hc.out
  apply UInt8.toNat_inj.1
  rw [UInt8.toNat_ofNat']
  omega
theorem u8_ne {u : UInt8} {c : Int} {n : Nat} (hc : Hid (c = u.toNat)) (hn : n < 256) (h : ¬ c = n) : u ≠ UInt8.ofNat n := by
  rintro rfl
  have := hc.out
  rw [UInt8.toNat_ofNat'] at this
  omega
/-- The round of the third coding's decoder, in plain words. -/
theorem pct_esc (s : ByteArray) (k : Nat) (l : List UInt8) (u : UInt8) (c : Int) (hk : k < s.size) (hus : Hid (u = s[k])) (hcu : Hid (c = u.toNat)) (h : c = 37) (R : Option (List UInt8)) (HR : Hid (decPct ((bl s).drop k) l = R)) :
    Hid (R = match twoAt ((bl s).drop (k + 1)) with | none => none | some x => decPct ((bl s).drop (k + 3)) (l ++ [x])) := by
  have hu := u8_of (n := 37) hcu (by decide) h
  have := HR.out
  rw [drop_byte s k hk, ← hus.out, hu] at this
  show R = _
  rw [← this]
  show decPct (37 :: _) l = _
  rw [decPct_two, List.drop_drop]
theorem pct_own (s : ByteArray) (k : Nat) (l : List UInt8) (u : UInt8) (c : Int) (hk : k < s.size) (hus : Hid (u = s[k])) (hcu : Hid (c = u.toNat)) (h : ¬ c = 37) (R : Option (List UInt8)) (HR : Hid (decPct ((bl s).drop k) l = R)) :
    Hid (decPct ((bl s).drop (k + 1)) (l ++ [u]) = R) := by
  have hu := u8_ne (n := 37) hcu (by decide) h
  have := HR.out
  rw [drop_byte s k hk, ← hus.out, decPct_own _ _ _ hu] at this
  exact this
set_option maxHeartbeats 1000000 in
theorem decodePercent_any (s : ByteArray) (w : World) (hs : s.size ≤ 1000000) : Calls Tryz.prog 144 #[.string s] w (DecPost (decPct (bl s) []) w) := by
  obtain ⟨i0, hi, hz0, hz1, hz2⟩ := info_parts info_u8
  go_enter Tryz.func144, Tryz.ntmps144
  go_wp2
  go_loopw [4, 5] (fun v i wr => ∃ (k : Nat) (l : List UInt8), k ≤ s.size ∧ i = .int .i64 (k : Int) ∧ l.length ≤ k ∧ OB 5 w.heap.size v l wr ∧ Below w.heap.size w wr ∧ decPct ((bl s).drop k) l = decPct (bl s) []) (fun _ i _ => s.size - (intOf i).toNat)
  case atStart => exact ⟨0, [], by omega, rfl, by simp, OB.nil_ _ _ _, Below.refl _ _, rfl⟩
  case round =>
    obtain ⟨k, l, hk, rfl, hl, hown, hbel, hrel⟩ := hrel
    have HR := Lib.hid hrel; clear hrel
    by_cases hlt : k < s.size
    · have hd : decide ((k : Int) < s.size) = true := decide_eq_true (by omega)
      obtain ⟨u, c, hus, hcu, hc0, hc1, hix⟩ := idx_str Tryz.underlying9 s k hlt .i64 (k : Int) rfl
      by_cases h37 : c = 37
      · have HS := pct_esc s k l u c hlt hus hcu h37 _ HR
        clear hcu
        subst h37
        cases hx : twoAt ((bl s).drop (k + 1)) with
        | none =>
          have T := two_any s ((k : Int) + 1) (k + 1) (by omega) wr hs (by omega)
          have HX := Lib.hid hx
          go_wp2_with fail
          refine T.mono ?_
          rintro e w1 ⟨u, r, rfl, -, -, q, rfl⟩
          rw [HX.out]; simp only [Option.isSome]
          go_wp2
          go_ret2
          have hs2 := HS.out
          rw [HX.out] at hs2
          exact DecPost.none_ hs2 (Below.drewN' hbel q)
        | some x =>
          have T := two_any s ((k : Int) + 1) (k + 1) (by omega) wr hs (by omega)
          have HX := Lib.hid hx
          have hsz : k + 3 ≤ s.size := by
            rcases Nat.lt_or_ge s.size (k + 3) with h | h
            · rw [twoAt_short s (k + 1) (by omega)] at hx; simp at hx
            · exact h
          go_wp2_with fail
          refine T.mono ?_
          rintro e w1 ⟨u, r, rfl, hu, hxx, q, rfl⟩
          rw [HX.out]; simp only [Option.isSome]
          obtain rfl := hxx.out x HX.out
          have hown1 := OB.drew hown q
          have hbel1 := Below.drewN' hbel q
          go_wp2_with (at_builtin; refine app_u8 Tryz.underlying30 hi hz0 hz1 hz2 _ _ _ _ _ u _ rfl rfl rfl rfl hown1 hu.out (by omega) hbel1.size ?_; intro v1 w3 hown3 hb3 _ _)
          go_roundw
          case rel =>
            have hs2 := HS.out
            rw [HX.out] at hs2
            exact ⟨k + 3, _, by omega, by go_num, by simp; omega, hown3, hbel1.trans hb3, hs2.symm⟩
          case measure => simp [intOf]; omega
      · have HS := pct_own s k l u c hlt hus hcu h37 _ HR
        go_wp2_with (at_builtin; refine app_u8 Tryz.underlying30 hi hz0 hz1 hz2 _ _ _ _ _ u _ rfl rfl rfl rfl hown hcu.out (by omega) hbel.size ?_; intro v1 w3 hown3 hb3 _ _)
        go_roundw
        case rel => exact ⟨k + 1, _, by omega, by go_num, by simp; omega, hown3, hbel.trans hb3, HS.out⟩
        case measure => simp [intOf]; omega
    · obtain rfl : k = s.size := by omega
      have hfin : decPct (bl s) [] = some l := by rw [← HR.out, List.drop_eq_nil_of_le (by rw [size_list]; omega)]; rfl
      go_wp2
      go_ret2
      exact DecPost.some_ hfin hown hbel
theorem indexB (s : ByteArray) (c : Int) (k : Int) (h : Lib.indexByte s.data.toList c.toNat.toUInt8 = k) (w : World) : Calls Tryz.prog 78 #[.string s, .int .u8 c] w fun e w' => e = .returned (.int .i64 k) ∧ w = w' := by
  subst h
  exact (Tryz.strings_IndexByte s c w).mono fun _ _ ⟨h1, h2⟩ => ⟨h1, h2.symm⟩
def escK (c : Int) : Int := if c = 110 then 0 else if c = 114 then 1 else if c = 116 then 2 else if c = 92 then 3 else -1
theorem indexByte_nil (c : UInt8) : Lib.indexByte [] c = -1 := rfl
theorem decEsc_end (o : List UInt8) : decEsc [92] o = none := rfl
theorem decEsc_own (c : UInt8) (r o : List UInt8) (h : c ≠ 92) : decEsc (c :: r) o = decEsc r (o ++ [c]) := by
  match r with
  | [] => exact if_neg h
  | [_] => exact if_neg h
  | [_, _] => exact if_neg h
  | _ :: _ :: _ :: r' => exact if_neg h
def escO (d : UInt8) (r o : List UInt8) : Option (List UInt8) :=
  if d = 110 then decEsc r (o ++ [10]) else if d = 114 then decEsc r (o ++ [13]) else if d = 116 then decEsc r (o ++ [9]) else if d = 92 then decEsc r (o ++ [92])
  else if d = 120 then (match twoAt r with | none => none | some x => decEsc (r.drop 2) (o ++ [x])) else none
theorem escO_none (d : UInt8) (r o : List UInt8) (h1 : d ≠ 110) (h2 : d ≠ 114) (h3 : d ≠ 116) (h4 : d ≠ 92) (h5 : d ≠ 120) : escO d r o = none := by
  unfold escO
  rw [if_neg h1, if_neg h2, if_neg h3, if_neg h4, if_neg h5]
theorem decEsc_esc (d : UInt8) (r o : List UInt8) : decEsc (92 :: d :: r) o = escO d r o := by
  match r with
  | [] => rfl
  | [_] => rfl
  | a :: b :: r' => rfl
theorem u8_int (c : Int) (v : UInt8) (h : Hid (c = v.toNat)) : c.toNat.toUInt8 = v := by
  rw [h.out]; simp
theorem all_u8 {p : UInt8 → Prop} (h : ∀ n : Fin 256, p (UInt8.ofNat n.val)) (v : UInt8) : p v := by
  have h1 := h ⟨v.toNat, v.toNat_lt⟩
  simpa using h1
theorem idx_esc0 : ∀ n : Fin 256, Lib.indexByte [110, 114, 116, 92] (UInt8.ofNat n.val) = escK ((UInt8.ofNat n.val).toNat : Int) := by decide +kernel
theorem idx_escapes (c : Int) (v : UInt8) (h : Hid (c = v.toNat)) : Lib.indexByte (⟨#[110, 114, 116, 92]⟩ : ByteArray).data.toList c.toNat.toUInt8 = escK c := by
  rw [u8_int c v h, h.out]
  exact all_u8 (p := fun v => Lib.indexByte [110, 114, 116, 92] v = escK (v.toNat : Int)) idx_esc0 v
/-- The rounds of the fourth coding's decoder, in plain words. -/
theorem esc_own (s : ByteArray) (k : Nat) (l : List UInt8) (u : UInt8) (c : Int) (hk : k < s.size) (hus : Hid (u = s[k])) (hcu : Hid (c = u.toNat)) (h : ¬ c = 92) (R : Option (List UInt8)) (HR : Hid (decEsc ((bl s).drop k) l = R)) :
    Hid (decEsc ((bl s).drop (k + 1)) (l ++ [u]) = R) := by
  have hu := u8_ne (n := 92) hcu (by decide) h
  have := HR.out
  rw [drop_byte s k hk, ← hus.out, decEsc_own _ _ _ hu] at this
  exact this
theorem esc_end (s : ByteArray) (k : Nat) (l : List UInt8) (u : UInt8) (c : Int) (hk : k + 1 = s.size) (hus : Hid (u = s[k])) (hcu : Hid (c = u.toNat)) (h : c = 92) (R : Option (List UInt8)) (HR : Hid (decEsc ((bl s).drop k) l = R)) : R = none := by
  have hu := u8_of (n := 92) hcu (by decide) h
  have := HR.out
  rw [drop_byte s k (by omega), ← hus.out, hu, List.drop_eq_nil_of_le (by rw [size_list]; omega)] at this
  exact this.symm
theorem esc_esc (s : ByteArray) (k : Nat) (l : List UInt8) (u v : UInt8) (c d : Int) (hk : k + 1 < s.size) (hus : Hid (u = s[k])) (hcu : Hid (c = u.toNat)) (h : c = 92) (hvs : Hid (v = s[k + 1])) (R : Option (List UInt8)) (HR : Hid (decEsc ((bl s).drop k) l = R)) :
    Hid (R = escO v ((bl s).drop (k + 2)) l) := by
  have hu := u8_of (n := 92) hcu (by decide) h
  have := HR.out
  rw [drop_byte s k (by omega), drop_byte s (k + 1) hk, ← hus.out, hu, ← hvs.out] at this
  show R = _
  rw [← this]
  exact decEsc_esc _ _ _
set_option maxHeartbeats 4000000 in
theorem decodeEscape_any (s : ByteArray) (w : World) (hs : s.size ≤ 1000000) : Calls Tryz.prog 145 #[.string s] w (DecPost (decEsc (bl s) []) w) := by
  obtain ⟨i0, hi, hz0, hz1, hz2⟩ := info_parts info_u8
  go_enter Tryz.func145, Tryz.ntmps145
  go_wp2
  go_loopw [4, 5] (fun v i wr => ∃ (k : Nat) (l : List UInt8), k ≤ s.size ∧ i = .int .i64 (k : Int) ∧ l.length ≤ k ∧ OB 5 w.heap.size v l wr ∧ Below w.heap.size w wr ∧ decEsc ((bl s).drop k) l = decEsc (bl s) []) (fun _ i _ => s.size - (intOf i).toNat)
  case atStart => exact ⟨0, [], by omega, rfl, by simp, OB.nil_ _ _ _, Below.refl _ _, rfl⟩
  case round =>
    obtain ⟨k, l, hk, rfl, hl, hown, hbel, hrel⟩ := hrel
    have HR := Lib.hid hrel; clear hrel
    by_cases hlt : k < s.size
    · have hd : decide ((k : Int) < s.size) = true := decide_eq_true (by omega)
      obtain ⟨u, c, hus, hcu, hc0, hc1, hix⟩ := idx_str Tryz.underlying9 s k hlt .i64 (k : Int) rfl
      by_cases h92 : c = 92
      · by_cases hend : k + 1 = s.size
        · have hfin := esc_end s k l u c hend hus hcu h92 _ HR
          have hd2 : ((k : Int) + 1 == s.size) = true := beq_iff_eq.2 (by omega)
          clear hcu HR
          subst h92
          clear hend
          go_wp2
          go_ret2
          exact DecPost.none_ hfin hbel
        · have hd2 : ((k : Int) + 1 == s.size) = false := by rw [beq_eq_false_iff_ne]; omega
          have hd3 : ¬ ((k : Int) + 1 = s.size) := by omega
          obtain ⟨v, d, hvs, hdv, hd0, hd1, hix2⟩ := idx_str Tryz.underlying9 s (k + 1) (by omega) .i64 ((k : Int) + 1) (by omega)
          have HS := esc_esc s k l u v c d (by omega) hus hcu h92 hvs _ HR
          have hie := idx_escapes d v hdv
          have T := two_any s ((k : Int) + 1 + 1) (k + 2) (by omega) wr hs (by omega)
          clear hcu hend
          subst h92
          go_wp2_with fail
          refine T.mono ?_
          rintro e w1 ⟨y, r, rfl, hy, hxx, q, rfl⟩
          have hown1 := OB.drew hown q
          have hbel1 := Below.drewN' hbel q
          rcases (show d = 110 ∨ d = 114 ∨ d = 116 ∨ d = 92 ∨ d = 120 ∨ (d ≠ 110 ∧ d ≠ 114 ∧ d ≠ 116 ∧ d ≠ 92 ∧ d ≠ 120) by omega) with hq | hq | hq | hq | hq | ⟨q1, q2, q3, q4, q5⟩
          · have HV := Lib.hid (u8_of (n := 110) hdv (by decide) hq)
            have IX := fun w => indexB (⟨#[110, 114, 116, 92]⟩ : ByteArray) d 0 (by rw [hie, hq]; rfl) w
            clear hie hdv
            subst hq
            go_wp2_with fail
            refine (IX _).mono ?_
            rintro e w2 ⟨rfl, rfl⟩
            go_wp2_with (at_builtin; refine app_u8 Tryz.underlying30 hi hz0 hz1 hz2 _ _ _ _ _ (10 : UInt8) _ rfl rfl rfl rfl hown1 rfl (by omega) hbel1.size ?_; intro v1 w3 hown3 hb3 _ _)
            go_roundw
            case rel =>
              have hs2 := HS.out
              rw [HV.out] at hs2
              exact ⟨k + 2, _, by omega, by go_num, by simp; omega, hown3, hbel1.trans hb3, hs2.symm⟩
            case measure => simp [intOf]; omega
          · have HV := Lib.hid (u8_of (n := 114) hdv (by decide) hq)
            have IX := fun w => indexB (⟨#[110, 114, 116, 92]⟩ : ByteArray) d 1 (by rw [hie, hq]; rfl) w
            clear hie hdv
            subst hq
            go_wp2_with fail
            refine (IX _).mono ?_
            rintro e w2 ⟨rfl, rfl⟩
            go_wp2_with (at_builtin; refine app_u8 Tryz.underlying30 hi hz0 hz1 hz2 _ _ _ _ _ (13 : UInt8) _ rfl rfl rfl rfl hown1 rfl (by omega) hbel1.size ?_; intro v1 w3 hown3 hb3 _ _)
            go_roundw
            case rel =>
              have hs2 := HS.out
              rw [HV.out] at hs2
              exact ⟨k + 2, _, by omega, by go_num, by simp; omega, hown3, hbel1.trans hb3, hs2.symm⟩
            case measure => simp [intOf]; omega
          · have HV := Lib.hid (u8_of (n := 116) hdv (by decide) hq)
            have IX := fun w => indexB (⟨#[110, 114, 116, 92]⟩ : ByteArray) d 2 (by rw [hie, hq]; rfl) w
            clear hie hdv
            subst hq
            go_wp2_with fail
            refine (IX _).mono ?_
            rintro e w2 ⟨rfl, rfl⟩
            go_wp2_with (at_builtin; refine app_u8 Tryz.underlying30 hi hz0 hz1 hz2 _ _ _ _ _ (9 : UInt8) _ rfl rfl rfl rfl hown1 rfl (by omega) hbel1.size ?_; intro v1 w3 hown3 hb3 _ _)
            go_roundw
            case rel =>
              have hs2 := HS.out
              rw [HV.out] at hs2
              exact ⟨k + 2, _, by omega, by go_num, by simp; omega, hown3, hbel1.trans hb3, hs2.symm⟩
            case measure => simp [intOf]; omega
          · have HV := Lib.hid (u8_of (n := 92) hdv (by decide) hq)
            have IX := fun w => indexB (⟨#[110, 114, 116, 92]⟩ : ByteArray) d 3 (by rw [hie, hq]; rfl) w
            clear hie hdv
            subst hq
            go_wp2_with fail
            refine (IX _).mono ?_
            rintro e w2 ⟨rfl, rfl⟩
            go_wp2_with (at_builtin; refine app_u8 Tryz.underlying30 hi hz0 hz1 hz2 _ _ _ _ _ (92 : UInt8) _ rfl rfl rfl rfl hown1 rfl (by omega) hbel1.size ?_; intro v1 w3 hown3 hb3 _ _)
            go_roundw
            case rel =>
              have hs2 := HS.out
              rw [HV.out] at hs2
              exact ⟨k + 2, _, by omega, by go_num, by simp; omega, hown3, hbel1.trans hb3, hs2.symm⟩
            case measure => simp [intOf]; omega
          · have HV := Lib.hid (u8_of (n := 120) hdv (by decide) hq)
            have IX := fun w => indexB (⟨#[110, 114, 116, 92]⟩ : ByteArray) d (-1) (by rw [hie, hq]; rfl) w
            have hs2 := HS.out
            rw [HV.out] at hs2
            have hs3 : decEsc (bl s) [] = (match twoAt ((bl s).drop (k + 2)) with | none => none | some x => decEsc ((bl s).drop (k + 4)) (l ++ [x])) := by
              rw [hs2]
              show (match twoAt ((bl s).drop (k + 2)) with | none => none | some x => decEsc (((bl s).drop (k + 2)).drop 2) (l ++ [x])) = _
              rw [List.drop_drop]
            clear hie hdv hs2
            subst hq
            cases hx : twoAt ((bl s).drop (k + 2)) with
            | none =>
              rw [hx] at hs3
              simp only [Option.isSome]
              go_wp2_with fail
              refine (IX _).mono ?_
              rintro e w2 ⟨rfl, rfl⟩
              go_wp2
              go_ret2
              exact DecPost.none_ hs3 hbel1
            | some x =>
              have hsz : k + 4 ≤ s.size := by
                rcases Nat.lt_or_ge s.size (k + 4) with h | h
                · rw [twoAt_short s (k + 2) (by omega)] at hx; simp at hx
                · exact h
              rw [hx] at hs3
              obtain rfl := hxx.out x hx
              have H3 := Lib.hid hs3; clear hs3
              have HX := Lib.hid hx; clear hx
              simp only [Option.isSome]
              go_wp2_with fail
              refine (IX _).mono ?_
              rintro e w2 ⟨rfl, rfl⟩
              go_wp2_with (at_builtin; refine app_u8 Tryz.underlying30 hi hz0 hz1 hz2 _ _ _ _ _ y _ rfl rfl rfl rfl hown1 hy.out (by omega) hbel1.size ?_; intro v1 w3 hown3 hb3 _ _)
              go_roundw
              case rel => exact ⟨k + 4, _, by omega, by go_num, by simp; omega, hown3, hbel1.trans hb3, H3.out.symm⟩
              case measure => simp [intOf]; omega
          · have IX := fun w => indexB (⟨#[110, 114, 116, 92]⟩ : ByteArray) d (-1) (by rw [hie]; unfold escK; rw [if_neg q1, if_neg q2, if_neg q3, if_neg q4]) w
            have hs2 : decEsc (bl s) [] = none := by
              rw [HS.out]
              exact escO_none _ _ _ (u8_ne (n := 110) hdv (by decide) q1) (u8_ne (n := 114) hdv (by decide) q2) (u8_ne (n := 116) hdv (by decide) q3) (u8_ne (n := 92) hdv (by decide) q4) (u8_ne (n := 120) hdv (by decide) q5)
            clear hie hdv
            go_wp2_with fail
            refine (IX _).mono ?_
            rintro e w2 ⟨rfl, rfl⟩
            go_wp2
            go_ret2
            exact DecPost.none_ hs2 hbel1
      · have HS := esc_own s k l u c hlt hus hcu h92 _ HR
        go_wp2_with (at_builtin; refine app_u8 Tryz.underlying30 hi hz0 hz1 hz2 _ _ _ _ _ u _ rfl rfl rfl rfl hown hcu.out (by omega) hbel.size ?_; intro v1 w3 hown3 hb3 _ _)
        go_roundw
        case rel => exact ⟨k + 1, _, by omega, by go_num, by simp; omega, hown3, hbel.trans hb3, HS.out⟩
        case measure => simp [intOf]; omega
    · obtain rfl : k = s.size := by omega
      have hfin : decEsc (bl s) [] = some l := by rw [← HR.out, List.drop_eq_nil_of_le (by rw [size_list]; omega)]; rfl
      go_wp2
      go_ret2
      exact DecPost.some_ hfin hown hbel
end Go.Proofs.YthmpcdjhighhgaaGreatDoor
namespace Go.Proofs.YthmpcdjhighhgaaGreatDoor
set_option linter.unusedVariables false
set_option linter.unusedSimpArgs false
set_option maxRecDepth 100000
open Go.RowKit
def sgnV (c : Int) : Int := if 65 ≤ c ∧ c ≤ 90 then c - 65 else if 97 ≤ c ∧ c ≤ 122 then c - 71 else if 48 ≤ c ∧ c ≤ 57 then c + 4 else if c = 43 then 62 else if c = 47 then 63 else -1
theorem sgnV_bd (c : Int) : -1 ≤ sgnV c ∧ sgnV c ≤ 63 := by
  unfold sgnV; split <;> (try split) <;> (try split) <;> (try split) <;> (try split) <;> omega
def signs : ByteArray := ⟨#[65, 66, 67, 68, 69, 70, 71, 72, 73, 74, 75, 76, 77, 78, 79, 80, 81, 82, 83, 84, 85, 86, 87, 88, 89, 90, 97, 98, 99, 100, 101, 102, 103, 104, 105, 106, 107, 108, 109, 110, 111, 112, 113, 114, 115, 116, 117, 118, 119, 120, 121, 122, 48, 49, 50, 51, 52, 53, 54, 55, 56, 57, 43, 47]⟩
theorem idx_sgn0 : ∀ n : Fin 256, Lib.indexByte signs.data.toList (UInt8.ofNat n.val) = sgnV ((UInt8.ofNat n.val).toNat : Int) := by decide +kernel
theorem idx_signs (c : Int) (v : UInt8) (h : Hid (c = v.toNat)) : Lib.indexByte signs.data.toList c.toNat.toUInt8 = sgnV c := by
  rw [u8_int c v h, h.out]
  exact all_u8 (p := fun v => Lib.indexByte signs.data.toList v = sgnV (v.toNat : Int)) idx_sgn0 v
def fin64 (p : Nat) (B : Int) : Option (List UInt8) :=
  if B % 256 ^ p = 0 then some ([UInt8.ofNat (B / 65536).toNat, UInt8.ofNat (B / 256 % 256).toNat, UInt8.ofNat (B % 256).toNat].take (3 - p)) else none
def grpF (p : Nat) : List UInt8 → Nat → Int → Option (List UInt8)
  | [], _, B => fin64 p B
  | c :: r, k, B => if 4 - p ≤ k then grpF p r (k + 1) (B * 64) else if sgnV c.toNat < 0 then none else grpF p r (k + 1) (B * 64 + sgnV c.toNat)
def padsOf (c d : UInt8) (last : Bool) : Nat := if last && d == 61 then (if c == 61 then 2 else 1) else 0
def grp (last : Bool) : List UInt8 → Option (List UInt8)
  | [a, b, c, d] => grpF (padsOf c d last) [a, b, c, d] 0 0
  | _ => none
def decB64 : List UInt8 → List UInt8 → Option (List UInt8)
  | [], o => some o
  | a :: b :: c :: d :: r, o => match grp r.isEmpty [a, b, c, d] with
    | none => none
    | some x => decB64 r (o ++ x)
  | _, _ => none
theorem sgn_case (c : Int) : (65 ≤ c ∧ c ≤ 90 ∧ sgnV c = c - 65) ∨ (97 ≤ c ∧ c ≤ 122 ∧ sgnV c = c - 97 + 26) ∨ (48 ≤ c ∧ c ≤ 57 ∧ sgnV c = c - 48 + 52) ∨ (c = 43 ∧ sgnV c = 62) ∨ (c = 47 ∧ sgnV c = 63) ∨
    (¬ (65 ≤ c ∧ c ≤ 90) ∧ ¬ (97 ≤ c ∧ c ≤ 122) ∧ ¬ (48 ≤ c ∧ c ≤ 57) ∧ c ≠ 43 ∧ c ≠ 47 ∧ sgnV c = -1) := by
  unfold sgnV
  split
  · left; omega
  · split
    · right; left; omega
    · split
      · right; right; left; omega
      · split
        · right; right; right; left; omega
        · split
          · right; right; right; right; left; omega
          · right; right; right; right; right; omega
end Go.Proofs.YthmpcdjhighhgaaGreatDoor
namespace Go.Proofs.YthmpcdjhighhgaaGreatDoor
set_option linter.unusedVariables false
set_option linter.unusedSimpArgs false
set_option maxRecDepth 100000
open Go.RowKit
theorem trimR (t : ByteArray) (q : Nat) (hq : (Lib.trimRightB (bl t) 61).length = q) (ht : t.size ≤ 1000000) (w : World) : Calls Tryz.prog 232 #[.string t, .string ⟨#[61]⟩] w fun e w' => (∃ x : ByteArray, e = .returned (.string x) ∧ x.size = q) ∧ w = w' := by
  refine (Tryz.strings_TrimRight_one t 61 (by decide) w (by omega)).mono ?_
  rintro e w' ⟨rfl, rfl⟩
  exact ⟨⟨_, rfl, by rw [← hq]; simp [bl, ByteArray.size]⟩, rfl⟩
def GrpPost (r : Option (List UInt8)) (w : World) (e : Ending) (w' : World) : Prop := match r with
  | none => e = .returned (.tuple #[.slice none 0 0, .bool false]) ∧ w = w'
  | some x => e = .returned (.tuple #[.slice (some ⟨w.heap.size, 0, none⟩) x.length 3, .bool true]) ∧ (∀ j (h : j < x.length), w'.cell? ⟨w.heap.size, j, none⟩ = some (.int .u8 x[j].toNat)) ∧ Below w.heap.size w w' ∧ w'.heap.size = w.heap.size + 1
theorem GrpPost.none_ {r : Option (List UInt8)} (h : r = none) (w : World) : GrpPost r w (.returned (.tuple #[.slice none 0 0, .bool false])) w := by
  subst h; exact ⟨rfl, rfl⟩
theorem GrpPost.some_ {r : Option (List UInt8)} {x : List UInt8} (h : r = some x) (w : World) (n : Nat) (hn : n = x.length) (cs : List Value) (e : TypeId) (hcs : ∀ j (h : j < x.length), cs[j]? = some (.int .u8 x[j].toNat)) :
    GrpPost r w (.returned (.tuple #[.slice (some ⟨w.heap.size, 0, none⟩) n 3, .bool true])) (w.alloc (.cells cs.toArray e)) := by
  subst h hn
  refine ⟨rfl, fun j hj => ?_, (Below.refl _ w).alloc (Nat.le_refl _) _, by simp⟩
  rw [World.cell?_alloc_mark]
  simpa using hcs j hj
theorem byte_names (u : UInt8) : ∃ c : Int, Hid (c = u.toNat) ∧ 0 ≤ c ∧ c < 256 := ⟨u.toNat, rfl, by omega, byte_lt _⟩
theorem grpF_pad (p : Nat) (c : UInt8) (r : List UInt8) (k : Nat) (B : Int) (R : Option (List UInt8)) (h : Hid (grpF p (c :: r) k B = R)) (hk : 4 - p ≤ k) : Hid (grpF p r (k + 1) (B * 64) = R) := by
  have := h.out; rw [grpF, if_pos hk] at this; exact this
theorem grpF_bad (p : Nat) (u : UInt8) (c x : Int) (r : List UInt8) (k : Nat) (B : Int) (R : Option (List UInt8)) (h : Hid (grpF p (u :: r) k B = R)) (hc : Hid (c = u.toNat)) (hx : Hid (sgnV c = x)) (hk : ¬ 4 - p ≤ k) (hn : x < 0) : R = none := by
  have := h.out; rw [grpF, if_neg hk, ← hc.out, hx.out, if_pos hn] at this; exact this.symm
theorem grpF_own (p : Nat) (u : UInt8) (c x : Int) (r : List UInt8) (k : Nat) (B : Int) (R : Option (List UInt8)) (h : Hid (grpF p (u :: r) k B = R)) (hc : Hid (c = u.toNat)) (hx : Hid (sgnV c = x)) (hk : ¬ 4 - p ≤ k) (hn : ¬ x < 0) : Hid (grpF p r (k + 1) (B * 64 + x) = R) := by
  have := h.out; rw [grpF, if_neg hk, ← hc.out, hx.out, if_neg hn] at this; exact this
theorem three_cells (B : Int) (h0 : 0 ≤ B) (h1 : B < 16777216) (n : Nat) (hn : n ≤ 3) : ∀ j (h : j < ([UInt8.ofNat (B / 65536).toNat, UInt8.ofNat (B / 256 % 256).toNat, UInt8.ofNat (B % 256).toNat].take n).length),
    [Value.int .u8 (B / 65536), .int .u8 (B / 256 % 256), .int .u8 (B % 256)][j]? = some (.int .u8 ([UInt8.ofNat (B / 65536).toNat, UInt8.ofNat (B / 256 % 256).toNat, UInt8.ofNat (B % 256).toNat].take n)[j].toNat) := by
  intro j hj
  rw [List.getElem_take]
  have hj3 : j < 3 := by simp at hj; omega
  match j, hj3 with
  | 0, _ => simp; omega
  | 1, _ => simp; omega
  | 2, _ => simp; omega
set_option maxHeartbeats 2000000 in
theorem group_f (t : ByteArray) (ht : t.size = 4) (w : World) (a b c d : UInt8) (hl : bl t = [a, b, c, d]) : Calls Tryz.prog 193 #[.string t, .bool false] w (GrpPost (grpF 0 [a, b, c, d] 0 0) w) := by
  obtain ⟨a', ha, ha0, ha1⟩ := byte_names a
  obtain ⟨b', hb, hb0, hb1⟩ := byte_names b
  obtain ⟨c', hc, hc0, hc1⟩ := byte_names c
  obtain ⟨d', hd, hd0, hd1⟩ := byte_names d
  have ia := idx_bl (P := Tryz.prog) Tryz.underlying9 t 0 a (by rw [hl]; rfl) .i64 0 rfl a' ha.out
  have ib := idx_bl (P := Tryz.prog) Tryz.underlying9 t 1 b (by rw [hl]; rfl) .i64 1 rfl b' hb.out
  have ic := idx_bl (P := Tryz.prog) Tryz.underlying9 t 2 c (by rw [hl]; rfl) .i64 2 rfl c' hc.out
  have id := idx_bl (P := Tryz.prog) Tryz.underlying9 t 3 d (by rw [hl]; rfl) .i64 3 rfl d' hd.out
  clear hl
  go_enter Tryz.func193, Tryz.ntmps193
  go_wp2
  go_loopw [7, 19] (fun v i wr => ∃ (k : Nat) (B : Int), k ≤ 4 ∧ i = .int .i64 (k : Int) ∧ v = .int .i64 B ∧ 0 ≤ B ∧ B < 64 ^ k ∧ w = wr ∧ Hid (grpF 0 ([a, b, c, d].drop k) k B = grpF 0 [a, b, c, d] 0 0)) (fun _ i _ => 4 - (intOf i).toNat)
  case atStart => exact ⟨0, 0, by omega, rfl, rfl, by omega, by decide, rfl, rfl⟩
  case round =>
    obtain ⟨k, B, hk, rfl, rfl, hB0, hB1, rfl, HR⟩ := hrel
    rcases (show k = 0 ∨ k = 1 ∨ k = 2 ∨ k = 3 ∨ k = 4 by omega) with rfl | rfl | rfl | rfl | rfl
    · obtain ⟨x, hx⟩ : ∃ x, sgnV a' = x := ⟨_, rfl⟩
      have hxb := sgnV_bd a'
      have IX := fun w => indexB signs a' x ((idx_signs a' a ha).trans hx) w
      rw [hx] at hxb
      have HX := Lib.hid hx; clear hx
      unfold signs at IX
      (try simp only [Int.reducePow] at *)
      have hor : bits .or .i64 (B * 64) x = B * 64 + x ∨ x < 0 := by
        by_cases q : x < 0
        · exact .inr q
        · exact .inl (or_sum B x 64 6 (by decide) hB0 (by omega) (by omega) (by omega))
      by_cases q : x < 0
      · have HF := Lib.hid (grpF_bad 0 a a' x _ 0 B _ HR ha HX (by decide) q)
        go_wp2_with fail
        refine (IX _).mono ?_
        rintro e w1 ⟨rfl, rfl⟩
        go_wp2
        go_ret2
        exact GrpPost.none_ HF.out w
      · have HF := grpF_own 0 a a' x _ 0 B _ HR ha HX (by decide) q
        have hor' : bits .or .i64 (B * 64) x = B * 64 + x := hor.resolve_right q
        clear hor
        go_wp2_with fail
        refine (IX _).mono ?_
        rintro e w1 ⟨rfl, rfl⟩
        go_wp2
        go_roundw
        case rel => exact ⟨1, B * 64 + x, by omega, by go_num, by go_num, by omega, by (try simp only [Int.reducePow] at *); omega, (by first | trivial | rfl), HF⟩
        case measure => simp [intOf]
    · obtain ⟨x, hx⟩ : ∃ x, sgnV b' = x := ⟨_, rfl⟩
      have hxb := sgnV_bd b'
      have IX := fun w => indexB signs b' x ((idx_signs b' b hb).trans hx) w
      rw [hx] at hxb
      have HX := Lib.hid hx; clear hx
      unfold signs at IX
      (try simp only [Int.reducePow] at *)
      have hor : bits .or .i64 (B * 64) x = B * 64 + x ∨ x < 0 := by
        by_cases q : x < 0
        · exact .inr q
        · exact .inl (or_sum B x 64 6 (by decide) hB0 (by omega) (by omega) (by omega))
      by_cases q : x < 0
      · have HF := Lib.hid (grpF_bad 0 b b' x _ 1 B _ HR hb HX (by decide) q)
        go_wp2_with fail
        refine (IX _).mono ?_
        rintro e w1 ⟨rfl, rfl⟩
        go_wp2
        go_ret2
        exact GrpPost.none_ HF.out w
      · have HF := grpF_own 0 b b' x _ 1 B _ HR hb HX (by decide) q
        have hor' : bits .or .i64 (B * 64) x = B * 64 + x := hor.resolve_right q
        clear hor
        go_wp2_with fail
        refine (IX _).mono ?_
        rintro e w1 ⟨rfl, rfl⟩
        go_wp2
        go_roundw
        case rel => exact ⟨2, B * 64 + x, by omega, by go_num, by go_num, by omega, by (try simp only [Int.reducePow] at *); omega, (by first | trivial | rfl), HF⟩
        case measure => simp [intOf]
    · obtain ⟨x, hx⟩ : ∃ x, sgnV c' = x := ⟨_, rfl⟩
      have hxb := sgnV_bd c'
      have IX := fun w => indexB signs c' x ((idx_signs c' c hc).trans hx) w
      rw [hx] at hxb
      have HX := Lib.hid hx; clear hx
      unfold signs at IX
      (try simp only [Int.reducePow] at *)
      have hor : bits .or .i64 (B * 64) x = B * 64 + x ∨ x < 0 := by
        by_cases q : x < 0
        · exact .inr q
        · exact .inl (or_sum B x 64 6 (by decide) hB0 (by omega) (by omega) (by omega))
      by_cases q : x < 0
      · have HF := Lib.hid (grpF_bad 0 c c' x _ 2 B _ HR hc HX (by decide) q)
        go_wp2_with fail
        refine (IX _).mono ?_
        rintro e w1 ⟨rfl, rfl⟩
        go_wp2
        go_ret2
        exact GrpPost.none_ HF.out w
      · have HF := grpF_own 0 c c' x _ 2 B _ HR hc HX (by decide) q
        have hor' : bits .or .i64 (B * 64) x = B * 64 + x := hor.resolve_right q
        clear hor
        go_wp2_with fail
        refine (IX _).mono ?_
        rintro e w1 ⟨rfl, rfl⟩
        go_wp2
        go_roundw
        case rel => exact ⟨3, B * 64 + x, by omega, by go_num, by go_num, by omega, by (try simp only [Int.reducePow] at *); omega, (by first | trivial | rfl), HF⟩
        case measure => simp [intOf]
    · obtain ⟨x, hx⟩ : ∃ x, sgnV d' = x := ⟨_, rfl⟩
      have hxb := sgnV_bd d'
      have IX := fun w => indexB signs d' x ((idx_signs d' d hd).trans hx) w
      rw [hx] at hxb
      have HX := Lib.hid hx; clear hx
      unfold signs at IX
      (try simp only [Int.reducePow] at *)
      have hor : bits .or .i64 (B * 64) x = B * 64 + x ∨ x < 0 := by
        by_cases q : x < 0
        · exact .inr q
        · exact .inl (or_sum B x 64 6 (by decide) hB0 (by omega) (by omega) (by omega))
      by_cases q : x < 0
      · have HF := Lib.hid (grpF_bad 0 d d' x _ 3 B _ HR hd HX (by decide) q)
        go_wp2_with fail
        refine (IX _).mono ?_
        rintro e w1 ⟨rfl, rfl⟩
        go_wp2
        go_ret2
        exact GrpPost.none_ HF.out w
      · have HF := grpF_own 0 d d' x _ 3 B _ HR hd HX (by decide) q
        have hor' : bits .or .i64 (B * 64) x = B * 64 + x := hor.resolve_right q
        clear hor
        go_wp2_with fail
        refine (IX _).mono ?_
        rintro e w1 ⟨rfl, rfl⟩
        go_wp2
        go_roundw
        case rel => exact ⟨4, B * 64 + x, by omega, by go_num, by go_num, by omega, by (try simp only [Int.reducePow] at *); omega, (by first | trivial | rfl), HF⟩
        case measure => simp [intOf]
    · (try simp only [Int.reducePow] at *)
      have hm : bits .and .i64 B 0 = 0 := by rw [and_rem B 0 1 0 (by decide) (by decide) (by decide) hB0 (by omega)]; omega
      have hfin : grpF 0 [a, b, c, d] 0 0 = some [UInt8.ofNat (B / 65536).toNat, UInt8.ofNat (B / 256 % 256).toNat, UInt8.ofNat (B % 256).toNat] := by
        rw [← HR.out]; show fin64 0 B = _; unfold fin64; rw [if_pos (by omega)]; rfl
      have HF := Lib.hid hfin; clear hfin
      go_wp2
      go_ret2
      refine GrpPost.some_ HF.out w 3 rfl [.int .u8 (B / 65536), .int .u8 (B / 256 % 256), .int .u8 (B % 256)] 5 ?_
      exact three_cells B hB0 (by omega) 3 (by omega)
set_option maxHeartbeats 2000000 in
theorem group_t0 (t : ByteArray) (ht : t.size = 4) (w : World) (a b c d : UInt8) (hl : bl t = [a, b, c, d]) (hq : (Lib.trimRightB (bl t) 61).length = 4) : Calls Tryz.prog 193 #[.string t, .bool true] w (GrpPost (grpF 0 [a, b, c, d] 0 0) w) := by
  obtain ⟨a', ha, ha0, ha1⟩ := byte_names a
  obtain ⟨b', hb, hb0, hb1⟩ := byte_names b
  obtain ⟨c', hc, hc0, hc1⟩ := byte_names c
  obtain ⟨d', hd, hd0, hd1⟩ := byte_names d
  have ia := idx_bl (P := Tryz.prog) Tryz.underlying9 t 0 a (by rw [hl]; rfl) .i64 0 rfl a' ha.out
  have ib := idx_bl (P := Tryz.prog) Tryz.underlying9 t 1 b (by rw [hl]; rfl) .i64 1 rfl b' hb.out
  have ic := idx_bl (P := Tryz.prog) Tryz.underlying9 t 2 c (by rw [hl]; rfl) .i64 2 rfl c' hc.out
  have id := idx_bl (P := Tryz.prog) Tryz.underlying9 t 3 d (by rw [hl]; rfl) .i64 3 rfl d' hd.out
  have TR := trimR t 4 hq (by omega)
  clear hl hq
  go_enter Tryz.func193, Tryz.ntmps193
  go_wp2_with fail
  refine (TR _).mono ?_
  rintro e w1 ⟨⟨y, rfl, hy⟩, rfl⟩
  go_wp2
  go_loopw [7, 19] (fun v i wr => ∃ (k : Nat) (B : Int), k ≤ 4 ∧ i = .int .i64 (k : Int) ∧ v = .int .i64 B ∧ 0 ≤ B ∧ B < 64 ^ k ∧ w = wr ∧ Hid (grpF 0 ([a, b, c, d].drop k) k B = grpF 0 [a, b, c, d] 0 0)) (fun _ i _ => 4 - (intOf i).toNat)
  case atStart => exact ⟨0, 0, by omega, rfl, rfl, by omega, by decide, rfl, rfl⟩
  case round =>
    obtain ⟨k, B, hk, rfl, rfl, hB0, hB1, rfl, HR⟩ := hrel
    rcases (show k = 0 ∨ k = 1 ∨ k = 2 ∨ k = 3 ∨ k = 4 by omega) with rfl | rfl | rfl | rfl | rfl
    · obtain ⟨x, hx⟩ : ∃ x, sgnV a' = x := ⟨_, rfl⟩
      have hxb := sgnV_bd a'
      have IX := fun w => indexB signs a' x ((idx_signs a' a ha).trans hx) w
      rw [hx] at hxb
      have HX := Lib.hid hx; clear hx
      unfold signs at IX
      (try simp only [Int.reducePow] at *)
      have hor : bits .or .i64 (B * 64) x = B * 64 + x ∨ x < 0 := by
        by_cases q : x < 0
        · exact .inr q
        · exact .inl (or_sum B x 64 6 (by decide) hB0 (by omega) (by omega) (by omega))
      by_cases q : x < 0
      · have HF := Lib.hid (grpF_bad 0 a a' x _ 0 B _ HR ha HX (by decide) q)
        go_wp2_with fail
        refine (IX _).mono ?_
        rintro e w1 ⟨rfl, rfl⟩
        go_wp2
        go_ret2
        exact GrpPost.none_ HF.out w
      · have HF := grpF_own 0 a a' x _ 0 B _ HR ha HX (by decide) q
        have hor' : bits .or .i64 (B * 64) x = B * 64 + x := hor.resolve_right q
        clear hor
        go_wp2_with fail
        refine (IX _).mono ?_
        rintro e w1 ⟨rfl, rfl⟩
        go_wp2
        go_roundw
        case rel => exact ⟨1, B * 64 + x, by omega, by go_num, by go_num, by omega, by (try simp only [Int.reducePow] at *); omega, (by first | trivial | rfl), HF⟩
        case measure => simp [intOf]
    · obtain ⟨x, hx⟩ : ∃ x, sgnV b' = x := ⟨_, rfl⟩
      have hxb := sgnV_bd b'
      have IX := fun w => indexB signs b' x ((idx_signs b' b hb).trans hx) w
      rw [hx] at hxb
      have HX := Lib.hid hx; clear hx
      unfold signs at IX
      (try simp only [Int.reducePow] at *)
      have hor : bits .or .i64 (B * 64) x = B * 64 + x ∨ x < 0 := by
        by_cases q : x < 0
        · exact .inr q
        · exact .inl (or_sum B x 64 6 (by decide) hB0 (by omega) (by omega) (by omega))
      by_cases q : x < 0
      · have HF := Lib.hid (grpF_bad 0 b b' x _ 1 B _ HR hb HX (by decide) q)
        go_wp2_with fail
        refine (IX _).mono ?_
        rintro e w1 ⟨rfl, rfl⟩
        go_wp2
        go_ret2
        exact GrpPost.none_ HF.out w
      · have HF := grpF_own 0 b b' x _ 1 B _ HR hb HX (by decide) q
        have hor' : bits .or .i64 (B * 64) x = B * 64 + x := hor.resolve_right q
        clear hor
        go_wp2_with fail
        refine (IX _).mono ?_
        rintro e w1 ⟨rfl, rfl⟩
        go_wp2
        go_roundw
        case rel => exact ⟨2, B * 64 + x, by omega, by go_num, by go_num, by omega, by (try simp only [Int.reducePow] at *); omega, (by first | trivial | rfl), HF⟩
        case measure => simp [intOf]
    · obtain ⟨x, hx⟩ : ∃ x, sgnV c' = x := ⟨_, rfl⟩
      have hxb := sgnV_bd c'
      have IX := fun w => indexB signs c' x ((idx_signs c' c hc).trans hx) w
      rw [hx] at hxb
      have HX := Lib.hid hx; clear hx
      unfold signs at IX
      (try simp only [Int.reducePow] at *)
      have hor : bits .or .i64 (B * 64) x = B * 64 + x ∨ x < 0 := by
        by_cases q : x < 0
        · exact .inr q
        · exact .inl (or_sum B x 64 6 (by decide) hB0 (by omega) (by omega) (by omega))
      by_cases q : x < 0
      · have HF := Lib.hid (grpF_bad 0 c c' x _ 2 B _ HR hc HX (by decide) q)
        go_wp2_with fail
        refine (IX _).mono ?_
        rintro e w1 ⟨rfl, rfl⟩
        go_wp2
        go_ret2
        exact GrpPost.none_ HF.out w
      · have HF := grpF_own 0 c c' x _ 2 B _ HR hc HX (by decide) q
        have hor' : bits .or .i64 (B * 64) x = B * 64 + x := hor.resolve_right q
        clear hor
        go_wp2_with fail
        refine (IX _).mono ?_
        rintro e w1 ⟨rfl, rfl⟩
        go_wp2
        go_roundw
        case rel => exact ⟨3, B * 64 + x, by omega, by go_num, by go_num, by omega, by (try simp only [Int.reducePow] at *); omega, (by first | trivial | rfl), HF⟩
        case measure => simp [intOf]
    · obtain ⟨x, hx⟩ : ∃ x, sgnV d' = x := ⟨_, rfl⟩
      have hxb := sgnV_bd d'
      have IX := fun w => indexB signs d' x ((idx_signs d' d hd).trans hx) w
      rw [hx] at hxb
      have HX := Lib.hid hx; clear hx
      unfold signs at IX
      (try simp only [Int.reducePow] at *)
      have hor : bits .or .i64 (B * 64) x = B * 64 + x ∨ x < 0 := by
        by_cases q : x < 0
        · exact .inr q
        · exact .inl (or_sum B x 64 6 (by decide) hB0 (by omega) (by omega) (by omega))
      by_cases q : x < 0
      · have HF := Lib.hid (grpF_bad 0 d d' x _ 3 B _ HR hd HX (by decide) q)
        go_wp2_with fail
        refine (IX _).mono ?_
        rintro e w1 ⟨rfl, rfl⟩
        go_wp2
        go_ret2
        exact GrpPost.none_ HF.out w
      · have HF := grpF_own 0 d d' x _ 3 B _ HR hd HX (by decide) q
        have hor' : bits .or .i64 (B * 64) x = B * 64 + x := hor.resolve_right q
        clear hor
        go_wp2_with fail
        refine (IX _).mono ?_
        rintro e w1 ⟨rfl, rfl⟩
        go_wp2
        go_roundw
        case rel => exact ⟨4, B * 64 + x, by omega, by go_num, by go_num, by omega, by (try simp only [Int.reducePow] at *); omega, (by first | trivial | rfl), HF⟩
        case measure => simp [intOf]
    · (try simp only [Int.reducePow] at *)
      have hm : bits .and .i64 B 0 = 0 := by rw [and_rem B 0 1 0 (by decide) (by decide) (by decide) hB0 (by omega)]; omega
      have hfin : grpF 0 [a, b, c, d] 0 0 = some [UInt8.ofNat (B / 65536).toNat, UInt8.ofNat (B / 256 % 256).toNat, UInt8.ofNat (B % 256).toNat] := by
        rw [← HR.out]; show fin64 0 B = _; unfold fin64; rw [if_pos (by omega)]; rfl
      have HF := Lib.hid hfin; clear hfin
      go_wp2
      go_ret2
      refine GrpPost.some_ HF.out w 3 rfl [.int .u8 (B / 65536), .int .u8 (B / 256 % 256), .int .u8 (B % 256)] 5 ?_
      exact three_cells B hB0 (by omega) 3 (by omega)
set_option maxHeartbeats 2000000 in
theorem group_t1 (t : ByteArray) (ht : t.size = 4) (w : World) (a b c d : UInt8) (hl : bl t = [a, b, c, d]) (hq : (Lib.trimRightB (bl t) 61).length = 3) : Calls Tryz.prog 193 #[.string t, .bool true] w (GrpPost (grpF 1 [a, b, c, d] 0 0) w) := by
  obtain ⟨a', ha, ha0, ha1⟩ := byte_names a
  obtain ⟨b', hb, hb0, hb1⟩ := byte_names b
  obtain ⟨c', hc, hc0, hc1⟩ := byte_names c
  obtain ⟨d', hd, hd0, hd1⟩ := byte_names d
  have ia := idx_bl (P := Tryz.prog) Tryz.underlying9 t 0 a (by rw [hl]; rfl) .i64 0 rfl a' ha.out
  have ib := idx_bl (P := Tryz.prog) Tryz.underlying9 t 1 b (by rw [hl]; rfl) .i64 1 rfl b' hb.out
  have ic := idx_bl (P := Tryz.prog) Tryz.underlying9 t 2 c (by rw [hl]; rfl) .i64 2 rfl c' hc.out
  have id := idx_bl (P := Tryz.prog) Tryz.underlying9 t 3 d (by rw [hl]; rfl) .i64 3 rfl d' hd.out
  have TR := trimR t 3 hq (by omega)
  clear hl hq
  go_enter Tryz.func193, Tryz.ntmps193
  go_wp2_with fail
  refine (TR _).mono ?_
  rintro e w1 ⟨⟨y, rfl, hy⟩, rfl⟩
  go_wp2
  go_loopw [7, 19] (fun v i wr => ∃ (k : Nat) (B : Int), k ≤ 4 ∧ i = .int .i64 (k : Int) ∧ v = .int .i64 B ∧ 0 ≤ B ∧ B < 64 ^ k ∧ w = wr ∧ Hid (grpF 1 ([a, b, c, d].drop k) k B = grpF 1 [a, b, c, d] 0 0)) (fun _ i _ => 4 - (intOf i).toNat)
  case atStart => exact ⟨0, 0, by omega, rfl, rfl, by omega, by decide, rfl, rfl⟩
  case round =>
    obtain ⟨k, B, hk, rfl, rfl, hB0, hB1, rfl, HR⟩ := hrel
    rcases (show k = 0 ∨ k = 1 ∨ k = 2 ∨ k = 3 ∨ k = 4 by omega) with rfl | rfl | rfl | rfl | rfl
    · obtain ⟨x, hx⟩ : ∃ x, sgnV a' = x := ⟨_, rfl⟩
      have hxb := sgnV_bd a'
      have IX := fun w => indexB signs a' x ((idx_signs a' a ha).trans hx) w
      rw [hx] at hxb
      have HX := Lib.hid hx; clear hx
      unfold signs at IX
      (try simp only [Int.reducePow] at *)
      have hor : bits .or .i64 (B * 64) x = B * 64 + x ∨ x < 0 := by
        by_cases q : x < 0
        · exact .inr q
        · exact .inl (or_sum B x 64 6 (by decide) hB0 (by omega) (by omega) (by omega))
      by_cases q : x < 0
      · have HF := Lib.hid (grpF_bad 1 a a' x _ 0 B _ HR ha HX (by decide) q)
        go_wp2_with fail
        refine (IX _).mono ?_
        rintro e w1 ⟨rfl, rfl⟩
        go_wp2
        go_ret2
        exact GrpPost.none_ HF.out w
      · have HF := grpF_own 1 a a' x _ 0 B _ HR ha HX (by decide) q
        have hor' : bits .or .i64 (B * 64) x = B * 64 + x := hor.resolve_right q
        clear hor
        go_wp2_with fail
        refine (IX _).mono ?_
        rintro e w1 ⟨rfl, rfl⟩
        go_wp2
        go_roundw
        case rel => exact ⟨1, B * 64 + x, by omega, by go_num, by go_num, by omega, by (try simp only [Int.reducePow] at *); omega, (by first | trivial | rfl), HF⟩
        case measure => simp [intOf]
    · obtain ⟨x, hx⟩ : ∃ x, sgnV b' = x := ⟨_, rfl⟩
      have hxb := sgnV_bd b'
      have IX := fun w => indexB signs b' x ((idx_signs b' b hb).trans hx) w
      rw [hx] at hxb
      have HX := Lib.hid hx; clear hx
      unfold signs at IX
      (try simp only [Int.reducePow] at *)
      have hor : bits .or .i64 (B * 64) x = B * 64 + x ∨ x < 0 := by
        by_cases q : x < 0
        · exact .inr q
        · exact .inl (or_sum B x 64 6 (by decide) hB0 (by omega) (by omega) (by omega))
      by_cases q : x < 0
      · have HF := Lib.hid (grpF_bad 1 b b' x _ 1 B _ HR hb HX (by decide) q)
        go_wp2_with fail
        refine (IX _).mono ?_
        rintro e w1 ⟨rfl, rfl⟩
        go_wp2
        go_ret2
        exact GrpPost.none_ HF.out w
      · have HF := grpF_own 1 b b' x _ 1 B _ HR hb HX (by decide) q
        have hor' : bits .or .i64 (B * 64) x = B * 64 + x := hor.resolve_right q
        clear hor
        go_wp2_with fail
        refine (IX _).mono ?_
        rintro e w1 ⟨rfl, rfl⟩
        go_wp2
        go_roundw
        case rel => exact ⟨2, B * 64 + x, by omega, by go_num, by go_num, by omega, by (try simp only [Int.reducePow] at *); omega, (by first | trivial | rfl), HF⟩
        case measure => simp [intOf]
    · obtain ⟨x, hx⟩ : ∃ x, sgnV c' = x := ⟨_, rfl⟩
      have hxb := sgnV_bd c'
      have IX := fun w => indexB signs c' x ((idx_signs c' c hc).trans hx) w
      rw [hx] at hxb
      have HX := Lib.hid hx; clear hx
      unfold signs at IX
      (try simp only [Int.reducePow] at *)
      have hor : bits .or .i64 (B * 64) x = B * 64 + x ∨ x < 0 := by
        by_cases q : x < 0
        · exact .inr q
        · exact .inl (or_sum B x 64 6 (by decide) hB0 (by omega) (by omega) (by omega))
      by_cases q : x < 0
      · have HF := Lib.hid (grpF_bad 1 c c' x _ 2 B _ HR hc HX (by decide) q)
        go_wp2_with fail
        refine (IX _).mono ?_
        rintro e w1 ⟨rfl, rfl⟩
        go_wp2
        go_ret2
        exact GrpPost.none_ HF.out w
      · have HF := grpF_own 1 c c' x _ 2 B _ HR hc HX (by decide) q
        have hor' : bits .or .i64 (B * 64) x = B * 64 + x := hor.resolve_right q
        clear hor
        go_wp2_with fail
        refine (IX _).mono ?_
        rintro e w1 ⟨rfl, rfl⟩
        go_wp2
        go_roundw
        case rel => exact ⟨3, B * 64 + x, by omega, by go_num, by go_num, by omega, by (try simp only [Int.reducePow] at *); omega, (by first | trivial | rfl), HF⟩
        case measure => simp [intOf]
    · have HF := grpF_pad 1 d _ 3 B _ HR (by decide)
      (try simp only [Int.reducePow] at *)
      go_wp2
      go_roundw
      case rel => exact ⟨4, B * 64, by omega, by go_num, by go_num, by omega, by (try simp only [Int.reducePow] at *); omega, (by first | trivial | rfl), HF⟩
      case measure => simp [intOf]
    · (try simp only [Int.reducePow] at *)
      have hm : bits .and .i64 B 255 = B % 256 := and_rem B 255 256 8 (by decide) (by decide) (by decide) hB0 (by omega)
      by_cases hz : B % 256 = 0
      · have hm0 : bits .and .i64 B 255 = 0 := hm.trans hz
        have hfin : grpF 1 [a, b, c, d] 0 0 = some ([UInt8.ofNat (B / 65536).toNat, UInt8.ofNat (B / 256 % 256).toNat, UInt8.ofNat (B % 256).toNat].take 2) := by
          rw [← HR.out]; show fin64 1 B = _; unfold fin64; rw [if_pos (show B % 256 ^ 1 = 0 from hz)]
        have HF := Lib.hid hfin; clear hfin hm hz
        go_wp2
        go_ret2
        refine GrpPost.some_ HF.out w 2 rfl [.int .u8 (B / 65536), .int .u8 (B / 256 % 256), .int .u8 (B % 256)] 5 ?_
        exact three_cells B hB0 (by omega) 2 (by omega)
      · have hm0 : ¬ bits .and .i64 B 255 = 0 := by rw [hm]; exact hz
        have hfin : grpF 1 [a, b, c, d] 0 0 = none := by
          rw [← HR.out]; show fin64 1 B = _; unfold fin64; rw [if_neg (show ¬ B % 256 ^ 1 = 0 from hz)]
        have HF := Lib.hid hfin; clear hfin hm hz
        go_wp2
        go_ret2
        exact GrpPost.none_ HF.out w
set_option maxHeartbeats 2000000 in
theorem group_t2 (t : ByteArray) (ht : t.size = 4) (w : World) (a b c d : UInt8) (hl : bl t = [a, b, c, d]) (hq : (Lib.trimRightB (bl t) 61).length = 2) : Calls Tryz.prog 193 #[.string t, .bool true] w (GrpPost (grpF 2 [a, b, c, d] 0 0) w) := by
  obtain ⟨a', ha, ha0, ha1⟩ := byte_names a
  obtain ⟨b', hb, hb0, hb1⟩ := byte_names b
  obtain ⟨c', hc, hc0, hc1⟩ := byte_names c
  obtain ⟨d', hd, hd0, hd1⟩ := byte_names d
  have ia := idx_bl (P := Tryz.prog) Tryz.underlying9 t 0 a (by rw [hl]; rfl) .i64 0 rfl a' ha.out
  have ib := idx_bl (P := Tryz.prog) Tryz.underlying9 t 1 b (by rw [hl]; rfl) .i64 1 rfl b' hb.out
  have ic := idx_bl (P := Tryz.prog) Tryz.underlying9 t 2 c (by rw [hl]; rfl) .i64 2 rfl c' hc.out
  have id := idx_bl (P := Tryz.prog) Tryz.underlying9 t 3 d (by rw [hl]; rfl) .i64 3 rfl d' hd.out
  have TR := trimR t 2 hq (by omega)
  clear hl hq
  go_enter Tryz.func193, Tryz.ntmps193
  go_wp2_with fail
  refine (TR _).mono ?_
  rintro e w1 ⟨⟨y, rfl, hy⟩, rfl⟩
  go_wp2
  go_loopw [7, 19] (fun v i wr => ∃ (k : Nat) (B : Int), k ≤ 4 ∧ i = .int .i64 (k : Int) ∧ v = .int .i64 B ∧ 0 ≤ B ∧ B < 64 ^ k ∧ w = wr ∧ Hid (grpF 2 ([a, b, c, d].drop k) k B = grpF 2 [a, b, c, d] 0 0)) (fun _ i _ => 4 - (intOf i).toNat)
  case atStart => exact ⟨0, 0, by omega, rfl, rfl, by omega, by decide, rfl, rfl⟩
  case round =>
    obtain ⟨k, B, hk, rfl, rfl, hB0, hB1, rfl, HR⟩ := hrel
    rcases (show k = 0 ∨ k = 1 ∨ k = 2 ∨ k = 3 ∨ k = 4 by omega) with rfl | rfl | rfl | rfl | rfl
    · obtain ⟨x, hx⟩ : ∃ x, sgnV a' = x := ⟨_, rfl⟩
      have hxb := sgnV_bd a'
      have IX := fun w => indexB signs a' x ((idx_signs a' a ha).trans hx) w
      rw [hx] at hxb
      have HX := Lib.hid hx; clear hx
      unfold signs at IX
      (try simp only [Int.reducePow] at *)
      have hor : bits .or .i64 (B * 64) x = B * 64 + x ∨ x < 0 := by
        by_cases q : x < 0
        · exact .inr q
        · exact .inl (or_sum B x 64 6 (by decide) hB0 (by omega) (by omega) (by omega))
      by_cases q : x < 0
      · have HF := Lib.hid (grpF_bad 2 a a' x _ 0 B _ HR ha HX (by decide) q)
        go_wp2_with fail
        refine (IX _).mono ?_
        rintro e w1 ⟨rfl, rfl⟩
        go_wp2
        go_ret2
        exact GrpPost.none_ HF.out w
      · have HF := grpF_own 2 a a' x _ 0 B _ HR ha HX (by decide) q
        have hor' : bits .or .i64 (B * 64) x = B * 64 + x := hor.resolve_right q
        clear hor
        go_wp2_with fail
        refine (IX _).mono ?_
        rintro e w1 ⟨rfl, rfl⟩
        go_wp2
        go_roundw
        case rel => exact ⟨1, B * 64 + x, by omega, by go_num, by go_num, by omega, by (try simp only [Int.reducePow] at *); omega, (by first | trivial | rfl), HF⟩
        case measure => simp [intOf]
    · obtain ⟨x, hx⟩ : ∃ x, sgnV b' = x := ⟨_, rfl⟩
      have hxb := sgnV_bd b'
      have IX := fun w => indexB signs b' x ((idx_signs b' b hb).trans hx) w
      rw [hx] at hxb
      have HX := Lib.hid hx; clear hx
      unfold signs at IX
      (try simp only [Int.reducePow] at *)
      have hor : bits .or .i64 (B * 64) x = B * 64 + x ∨ x < 0 := by
        by_cases q : x < 0
        · exact .inr q
        · exact .inl (or_sum B x 64 6 (by decide) hB0 (by omega) (by omega) (by omega))
      by_cases q : x < 0
      · have HF := Lib.hid (grpF_bad 2 b b' x _ 1 B _ HR hb HX (by decide) q)
        go_wp2_with fail
        refine (IX _).mono ?_
        rintro e w1 ⟨rfl, rfl⟩
        go_wp2
        go_ret2
        exact GrpPost.none_ HF.out w
      · have HF := grpF_own 2 b b' x _ 1 B _ HR hb HX (by decide) q
        have hor' : bits .or .i64 (B * 64) x = B * 64 + x := hor.resolve_right q
        clear hor
        go_wp2_with fail
        refine (IX _).mono ?_
        rintro e w1 ⟨rfl, rfl⟩
        go_wp2
        go_roundw
        case rel => exact ⟨2, B * 64 + x, by omega, by go_num, by go_num, by omega, by (try simp only [Int.reducePow] at *); omega, (by first | trivial | rfl), HF⟩
        case measure => simp [intOf]
    · have HF := grpF_pad 2 c _ 2 B _ HR (by decide)
      (try simp only [Int.reducePow] at *)
      go_wp2
      go_roundw
      case rel => exact ⟨3, B * 64, by omega, by go_num, by go_num, by omega, by (try simp only [Int.reducePow] at *); omega, (by first | trivial | rfl), HF⟩
      case measure => simp [intOf]
    · have HF := grpF_pad 2 d _ 3 B _ HR (by decide)
      (try simp only [Int.reducePow] at *)
      go_wp2
      go_roundw
      case rel => exact ⟨4, B * 64, by omega, by go_num, by go_num, by omega, by (try simp only [Int.reducePow] at *); omega, (by first | trivial | rfl), HF⟩
      case measure => simp [intOf]
    · (try simp only [Int.reducePow] at *)
      have hm : bits .and .i64 B 65535 = B % 65536 := and_rem B 65535 65536 16 (by decide) (by decide) (by decide) hB0 (by omega)
      by_cases hz : B % 65536 = 0
      · have hm0 : bits .and .i64 B 65535 = 0 := hm.trans hz
        have hfin : grpF 2 [a, b, c, d] 0 0 = some ([UInt8.ofNat (B / 65536).toNat, UInt8.ofNat (B / 256 % 256).toNat, UInt8.ofNat (B % 256).toNat].take 1) := by
          rw [← HR.out]; show fin64 2 B = _; unfold fin64; rw [if_pos (show B % 256 ^ 2 = 0 from hz)]
        have HF := Lib.hid hfin; clear hfin hm hz
        go_wp2
        go_ret2
        refine GrpPost.some_ HF.out w 1 rfl [.int .u8 (B / 65536), .int .u8 (B / 256 % 256), .int .u8 (B % 256)] 5 ?_
        exact three_cells B hB0 (by omega) 1 (by omega)
      · have hm0 : ¬ bits .and .i64 B 65535 = 0 := by rw [hm]; exact hz
        have hfin : grpF 2 [a, b, c, d] 0 0 = none := by
          rw [← HR.out]; show fin64 2 B = _; unfold fin64; rw [if_neg (show ¬ B % 256 ^ 2 = 0 from hz)]
        have HF := Lib.hid hfin; clear hfin hm hz
        go_wp2
        go_ret2
        exact GrpPost.none_ HF.out w
theorem group_t3 (t : ByteArray) (ht : t.size = 4) (w : World) (q : Nat) (hq : (Lib.trimRightB (bl t) 61).length = q) (hq1 : q ≤ 1) (r : Option (List UInt8)) (hr : r = none) : Calls Tryz.prog 193 #[.string t, .bool true] w (GrpPost r w) := by
  have TR := trimR t q hq (by omega)
  clear hq
  go_enter Tryz.func193, Tryz.ntmps193
  go_wp2_with fail
  refine (TR _).mono ?_
  rintro e w1 ⟨⟨y, rfl, hy⟩, rfl⟩
  go_wp2
  go_ret2
  exact GrpPost.none_ hr w
end Go.Proofs.YthmpcdjhighhgaaGreatDoor
namespace Go.Proofs.YthmpcdjhighhgaaGreatDoor
set_option linter.unusedVariables false
set_option linter.unusedSimpArgs false
set_option maxRecDepth 100000
open Go.RowKit
theorem grpF_bad2 (a c d : UInt8) : grpF 2 [a, 61, c, d] 0 0 = none := by
  unfold grpF
  rw [if_neg (by decide)]
  split
  · rfl
  · unfold grpF
    rw [if_neg (by decide), if_pos (by decide)]
theorem group_any (t : ByteArray) (ht : t.size = 4) (w : World) (a b c d : UInt8) (hl : bl t = [a, b, c, d]) (last : Bool) : Calls Tryz.prog 193 #[.string t, .bool last] w (GrpPost (grp last [a, b, c, d]) w) := by
  cases last with
  | false => exact group_f t ht w a b c d hl
  | true =>
    have e : grp true [a, b, c, d] = grpF (if d == 61 then (if c == 61 then 2 else 1) else 0) [a, b, c, d] 0 0 := rfl
    rw [e]
    by_cases hd : d = 61
    · subst hd
      by_cases hc : c = 61
      · subst hc
        by_cases hb : b = 61
        · subst hb
          refine group_t3 t ht w _ rfl ?_ _ (grpF_bad2 a 61 61)
          rw [hl]
          by_cases ha : a = 61
          · subst ha; decide
          · simp [Lib.trimRightB, List.dropWhile, (show (a == 61) = false by simpa using ha)]
        · exact group_t2 t ht w a b 61 61 hl (by rw [hl]; simp [Lib.trimRightB, List.dropWhile, (show (b == 61) = false by simpa using hb)])
      · rw [if_pos (by decide), if_neg (by simpa using hc)]
        exact group_t1 t ht w a b c 61 hl (by rw [hl]; simp [Lib.trimRightB, List.dropWhile, (show (c == 61) = false by simpa using hc)])
    · rw [if_neg (by simpa using hd)]
      exact group_t0 t ht w a b c d hl (by rw [hl]; simp [Lib.trimRightB, List.dropWhile, (show (d == 61) = false by simpa using hd)])
theorem decB64_four (l o : List UInt8) (a b c d : UInt8) (r : List UInt8) (h : l = a :: b :: c :: d :: r) : decB64 l o = match grp r.isEmpty [a, b, c, d] with | none => none | some x => decB64 r (o ++ x) := by
  subst h; rfl
theorem decB64_odd (l : List UInt8) : ∀ (o : List UInt8), l.length % 4 ≠ 0 → decB64 l o = none := by
  intro o h
  match l, h with
  | [], h => simp at h
  | [_], _ => rfl
  | [_, _], _ => rfl
  | [_, _, _], _ => rfl
  | a :: b :: c :: d :: r, h =>
    show (match grp r.isEmpty [a, b, c, d] with | none => none | some x => decB64 r (o ++ x)) = none
    split
    · rfl
    · exact decB64_odd r _ (by simp at h; omega)
theorem drop_four (s : ByteArray) (k : Nat) (h : k + 4 ≤ s.size) : (bl s).drop k = s[k] :: s[k + 1] :: s[k + 2] :: s[k + 3] :: (bl s).drop (k + 4) := by
  rw [drop_byte s k (by omega), drop_byte s (k + 1) (by omega), drop_byte s (k + 2) (by omega), drop_byte s (k + 3) (by omega)]
theorem OB.below {e : TypeId} {B : Nat} {v : Value} {l : List UInt8} {w w1 : World} (h : OB e B v l w) (hb : Below w.heap.size w w1) : OB e B v l w1 := by
  refine ⟨h.1, ?_⟩
  rcases h.2 with h1 | ⟨g, cap, cur, h1, h2, hg, rest⟩
  · exact .inl h1
  · exact .inr ⟨g, cap, cur, h1, h2, (hb.block g (Array.getElem?_eq_some_iff.1 hg).1).trans hg, rest⟩
theorem bl_extract (s : ByteArray) (k n : Nat) (l : List UInt8) (h : ((bl s).drop k).take n = l) : bl (s.extract k (k + n)) = l := by
  rw [← h]
  unfold bl
  rw [ByteArray.data_extract, Array.toList_extract, List.extract_eq_take_drop]
  congr 1
  omega
theorem grpF_len (p : Nat) (l : List UInt8) : ∀ (k : Nat) (B : Int) (x : List UInt8), grpF p l k B = some x → x.length ≤ 3 := by
  induction l with
  | nil =>
    intro k B x h
    unfold grpF fin64 at h
    split at h
    · injection h with h
      rw [← h]; simp
    · cases h
  | cons c r ih =>
    intro k B x h
    unfold grpF at h
    split at h
    · exact ih _ _ _ h
    · split at h
      · cases h
      · exact ih _ _ _ h
theorem grp_len (last : Bool) (a b c d : UInt8) (x : List UInt8) (h : grp last [a, b, c, d] = some x) : x.length ≤ 3 := grpF_len _ _ _ _ _ h
/-- 'out = append(out, row...)' of bytes that lie anywhere. -/
theorem app_row {P : Program} {T e : TypeId} {i0 : TypeInfo} (ht : P.underlying T = some (.slice e)) (hi : P.info? e = some i0) (hz0 : i0.zero = some (.int .u8 0)) (hz1 : i0.size = 1) (hz2 : i0.bytes = 1)
    {w : World} {ops : Array Oper} {rest : List Oper} {o : Oper} {a : Act} {Q : Exit → Act → World → Prop} (s x : Operand) (v : Value) (l r : List UInt8) (g cap : Nat) (B : Nat)
    (hgd : o.guard = none) (ho : o.op = .call { callee := .builtin .append, args := #[s, x], argTypes := #[T, T] })
    (hs : a.eval s = v) (hx : a.eval x = .slice (some ⟨g, 0, none⟩) r.length cap) (hown : OB e B v l w) (hc : ∀ j (h : j < r.length), w.cell? ⟨g, j, none⟩ = some (.int .u8 r[j].toNat)) (hl : l.length + r.length < 1000000000) (hB : B ≤ w.heap.size)
    (h : ∀ v' w1, OB e B v' (l ++ r) w1 → Below B w w1 → wpList P ops Q rest (a.put o.dst v') w1) :
    wpList P ops Q (o :: rest) a w := by
  refine wpList_append_own _ hgd s x T ho B e i0 (.int .u8 0) 1 1 ht hi hz0 hz1 hz2 rfl (by decide) v l.length _ hs hown ⟨g, 0, none⟩ r.length cap (r.map fun c => Value.int .u8 c.toNat) hx (by simp) ?_ (oneCell_bytes r) ?_ ?_ hB ?_
  · intro j u hj
    rw [Addr.add_lit, Nat.zero_add]
    rw [List.getElem?_map] at hj
    obtain ⟨y, hy, rfl⟩ := Option.map_eq_some_iff.1 hj
    obtain ⟨hjl, rfl⟩ := List.getElem?_eq_some_iff.1 hy
    exact hc j hjl
  · unfold maxLen; omega
  · omega
  · intro v' w1 hown1 hg _
    exact h v' w1 (by simpa [OB] using hown1) ((Below.refl B w).grown hg hB (fun k hk => (hown.lt k hk).1))
theorem isEmpty_drop (s : ByteArray) (m : Nat) : (4 * (m : Int) + 4 == (s.size : Int)) = ((bl s).drop (4 * m + 4)).isEmpty ∨ s.size < 4 * m + 4 := by
  by_cases h : s.size < 4 * m + 4
  · exact .inr h
  · left
    rw [Bool.eq_iff_iff, beq_iff_eq, List.isEmpty_iff, List.drop_eq_nil_iff, size_list]
    omega
set_option maxHeartbeats 1000000 in
theorem decodeBase64_any (s : ByteArray) (w : World) (hs : s.size ≤ 1000000) : Calls Tryz.prog 143 #[.string s] w (DecPost (decB64 (bl s) []) w) := by
  obtain ⟨i0, hi, hz0, hz1, hz2⟩ := info_parts info_u8
  by_cases hodd : s.size % 4 = 0
  · obtain ⟨n, hn⟩ : ∃ n, s.size = 4 * n := ⟨s.size / 4, by omega⟩
    have hr : (s.size : Int).tmod 4 = 0 := by rw [Int.tmod_eq_emod_of_nonneg (by omega)]; omega
    have HN := Lib.hid hn; clear hodd hn
    go_enter Tryz.func143, Tryz.ntmps143
    go_wp2
    go_loopw [4, 5] (fun v i wr => ∃ (m : Nat) (l : List UInt8), m ≤ n ∧ i = .int .i64 (4 * (m : Int)) ∧ l.length ≤ 3 * m ∧ OB 5 w.heap.size v l wr ∧ Below w.heap.size w wr ∧ decB64 ((bl s).drop (4 * m)) l = decB64 (bl s) []) (fun _ i _ => s.size - (intOf i).toNat)
    case atStart => exact ⟨0, [], by omega, rfl, by simp, OB.nil_ _ _ _, Below.refl _ _, rfl⟩
    case round =>
      obtain ⟨m, l, hm, rfl, hl, hown, hbel, hrel⟩ := hrel
      have HR := Lib.hid hrel; clear hrel
      by_cases hlt : m < n
      · have h2 : 4 * m + 4 ≤ s.size := by have := HN.out; omega
        have hd : decide (4 * (m : Int) < s.size) = true := decide_eq_true (by omega)
        have hst := decB64_four _ l _ _ _ _ _ (drop_four s (4 * m) h2)
        rw [HR.out] at hst
        have HS := Lib.hid hst; clear hst
        go_wp2_with fail
        have hlast := (isEmpty_drop s m).resolve_right (by omega)
        rw [hlast]
        have hext := bl_extract s (4 * m) 4 _ (by rw [drop_four s (4 * m) h2]; first | done | rfl)
        have hes : (s.extract (4 * m) (4 * m + 4)).size = 4 := by rw [← size_list, hext]; rfl
        refine (group_any _ hes _ _ _ _ _ hext _).mono ?_
        cases hx : grp ((bl s).drop (4 * m + 4)).isEmpty [s[4 * m], s[4 * m + 1], s[4 * m + 2], s[4 * m + 3]] with
        | none =>
          have hs2 := HS.out
          rw [hx] at hs2
          have HF := Lib.hid hs2; clear hs2 hx hext hes hlast
          rintro e w1 ⟨rfl, rfl⟩
          go_wp2
          go_ret2
          exact DecPost.none_ HF.out hbel
        | some x =>
          have hs2 := HS.out
          rw [hx] at hs2
          have hx3 := grp_len _ _ _ _ _ _ hx
          have HF := Lib.hid hs2; clear hs2 hx hext hes hlast
          rintro e w1 ⟨rfl, hcells, hb1, hsz⟩
          have hown1 := hown.below hb1
          have hbel1 := hbel.trans (hb1.mono hbel.size)
          go_wp2_with (at_builtin; refine app_row Tryz.underlying30 hi hz0 hz1 hz2 _ _ _ _ x _ _ _ rfl rfl rfl rfl hown1 hcells (by omega) hbel1.size ?_; intro v1 w3 hown3 hb3)
          go_roundw
          case rel => exact ⟨m + 1, _, by omega, by go_num, by simp; omega, hown3, hbel1.trans hb3, HF.out.symm⟩
          case measure => simp [intOf]; omega
      · obtain rfl : m = n := by omega
        have h2 : s.size ≤ 4 * m := by have := HN.out; omega
        have hd : decide (4 * (m : Int) < s.size) = false := decide_eq_false (by omega)
        have hz : (bl s).drop (4 * m) = [] := List.drop_eq_nil_of_le (by rw [size_list]; exact h2)
        have hfin : decB64 (bl s) [] = some l := by rw [← HR.out, hz]; rfl
        go_wp2
        go_ret2
        exact DecPost.some_ hfin hown hbel
  · have hn := Lib.hid (decB64_odd (bl s) [] (by rw [size_list]; exact hodd))
    have hr3 : (s.size : Int).tmod 4 = 1 ∨ (s.size : Int).tmod 4 = 2 ∨ (s.size : Int).tmod 4 = 3 := by rw [Int.tmod_eq_emod_of_nonneg (by omega)]; omega
    have HO := Lib.hid hodd; clear hodd
    rcases hr3 with hr | hr | hr
    all_goals
      go_enter Tryz.func143, Tryz.ntmps143
      go_wp2
      go_ret2
      exact DecPost.none_ hn.out (Below.refl _ _)
end Go.Proofs.YthmpcdjhighhgaaGreatDoor
