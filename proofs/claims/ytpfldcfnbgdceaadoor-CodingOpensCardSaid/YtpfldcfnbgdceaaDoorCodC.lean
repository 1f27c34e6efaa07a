/- Walks of the decoders of the third and the fourth coding. -/
import Derived.Test.YtpfldcfnbgdceaaDoorCodB
import Derived.Test.YtpfldcfnbgdceaaDoorShelf
namespace Go.Proofs.YtpfldcfnbgdceaaDoor
set_option linter.unusedVariables false
set_option linter.unusedSimpArgs false
set_option maxRecDepth 100000
open Go.RowKit
theorem decPct_two (r o : List UInt8) : decPct (37 :: r) o = match twoAt r with | none => none | some x => decPct (r.drop 2) (o ++ [x]) := by
  match r with
  | [] => rfl
  | [_] => rfl
  | a :: b :: r' => rfl
theorem decPct_own (c : UInt8) (r o : List UInt8) (h : c ≠ 37) : decPct (c :: r) o = decPct r (o ++ [c]) := by
  match r with
  | [] => exact if_neg h
  | [_] => exact if_neg h
  | a :: b :: r' => exact if_neg h
theorem u8_of {u : UInt8} {c : Int} {n : Nat} (hc : Hid (c = u.toNat)) (hn : n < 256) (h : c = n) : u = UInt8.ofNat n := by
  have := hc.out
  apply UInt8.toNat_inj.1
  rw [UInt8.toNat_ofNat']
  omega
theorem u8_ne {u : UInt8} {c : Int} {n : Nat} (hc : Hid (c = u.toNat)) (hn : n < 256) (h : ¬ c = n) : u ≠ UInt8.ofNat n := by
  rintro rfl
  have := hc.out
  rw [UInt8.toNat_ofNat'] at this
  omega
/-- The round of the third coding's decoder, in plain words. -/
theorem pct_esc (s : ByteArray) (k : Nat) (l : List UInt8) (u : UInt8) (c : Int) (hk : k < s.size) (hus : Hid (u = s[k])) (hcu : Hid (c = u.toNat)) (h : c = 37) (R : Option (List UInt8)) (HR : Hid (decPct ((bl s).drop k) l = R)) :
    Hid (R = match twoAt ((bl s).drop (k + 1)) with | none => none | some x => decPct ((bl s).drop (k + 3)) (l ++ [x])) := by
  have hu := u8_of (n := 37) hcu (by decide) h
  have := HR.out
  rw [drop_byte s k hk, ← hus.out, hu] at this
  show R = _
  rw [← this]
  show decPct (37 :: _) l = _
  rw [decPct_two, List.drop_drop]
theorem pct_own (s : ByteArray) (k : Nat) (l : List UInt8) (u : UInt8) (c : Int) (hk : k < s.size) (hus : Hid (u = s[k])) (hcu : Hid (c = u.toNat)) (h : ¬ c = 37) (R : Option (List UInt8)) (HR : Hid (decPct ((bl s).drop k) l = R)) :
    Hid (decPct ((bl s).drop (k + 1)) (l ++ [u]) = R) := by
  have hu := u8_ne (n := 37) hcu (by decide) h
  have := HR.out
  rw [drop_byte s k hk, ← hus.out, decPct_own _ _ _ hu] at this
  exact this
set_option maxHeartbeats 1000000 in
theorem decodePercent_any (s : ByteArray) (w : World) (hs : s.size ≤ 1000000) : Calls Tryd.prog 31 #[.string s] w (DecPost (decPct (bl s) []) w) := by
  obtain ⟨i0, hi, hz0, hz1, hz2⟩ := info_parts info_u8
  go_enter Tryd.func31, Tryd.ntmps31
  go_wp2
  go_loopw [4, 5] (fun v i wr => ∃ (k : Nat) (l : List UInt8), k ≤ s.size ∧ i = .int .i64 (k : Int) ∧ l.length ≤ k ∧ OB 5 w.heap.size v l wr ∧ Below w.heap.size w wr ∧ decPct ((bl s).drop k) l = decPct (bl s) []) (fun _ i _ => s.size - (intOf i).toNat)
  case atStart => exact ⟨0, [], by omega, rfl, by simp, OB.nil_ _ _ _, Below.refl _ _, rfl⟩
  case round =>
    obtain ⟨k, l, hk, rfl, hl, hown, hbel, hrel⟩ := hrel
    have HR := Lib.hid hrel; clear hrel
    by_cases hlt : k < s.size
    · have hd : decide ((k : Int) < s.size) = true := decide_eq_true (by omega)
      obtain ⟨u, c, hus, hcu, hc0, hc1, hix⟩ := idx_str Tryd.underlying9 s k hlt .i64 (k : Int) rfl
      by_cases h37 : c = 37
      · have HS := pct_esc s k l u c hlt hus hcu h37 _ HR
        clear hcu
        subst h37
        cases hx : twoAt ((bl s).drop (k + 1)) with
        | none =>
          have T := two_any s ((k : Int) + 1) (k + 1) (by omega) wr hs (by omega)
          have HX := Lib.hid hx
          go_wp2_with fail
          refine T.mono ?_
          rintro e w1 ⟨u, r, rfl, -, -, q, rfl⟩
          rw [HX.out]; simp only [Option.isSome]
          go_wp2
          go_ret2
          have hs2 := HS.out
          rw [HX.out] at hs2
          exact DecPost.none_ hs2 (Below.drewN' hbel q)
        | some x =>
          have T := two_any s ((k : Int) + 1) (k + 1) (by omega) wr hs (by omega)
          have HX := Lib.hid hx
          have hsz : k + 3 ≤ s.size := by
            rcases Nat.lt_or_ge s.size (k + 3) with h | h
            · rw [twoAt_short s (k + 1) (by omega)] at hx; simp at hx
            · exact h
          go_wp2_with fail
          refine T.mono ?_
          rintro e w1 ⟨u, r, rfl, hu, hxx, q, rfl⟩
          rw [HX.out]; simp only [Option.isSome]
          obtain rfl := hxx.out x HX.out
          have hown1 := OB.drew hown q
          have hbel1 := Below.drewN' hbel q
          go_wp2_with (at_builtin; refine app_u8 Tryd.underlying23 hi hz0 hz1 hz2 _ _ _ _ _ u _ rfl rfl rfl rfl hown1 hu.out (by omega) hbel1.size ?_; intro v1 w3 hown3 hb3 _ _)
          go_roundw
          case rel =>
            have hs2 := HS.out
            rw [HX.out] at hs2
            exact ⟨k + 3, _, by omega, by go_num, by simp; omega, hown3, hbel1.trans hb3, hs2.symm⟩
          case measure => simp [intOf]; omega
      · have HS := pct_own s k l u c hlt hus hcu h37 _ HR
        go_wp2_with (at_builtin; refine app_u8 Tryd.underlying23 hi hz0 hz1 hz2 _ _ _ _ _ u _ rfl rfl rfl rfl hown hcu.out (by omega) hbel.size ?_; intro v1 w3 hown3 hb3 _ _)
        go_roundw
        case rel => exact ⟨k + 1, _, by omega, by go_num, by simp; omega, hown3, hbel.trans hb3, HS.out⟩
        case measure => simp [intOf]; omega
    · obtain rfl : k = s.size := by omega
      have hfin : decPct (bl s) [] = some l := by rw [← HR.out, List.drop_eq_nil_of_le (by rw [size_list]; omega)]; rfl
      go_wp2
      go_ret2
      exact DecPost.some_ hfin hown hbel
theorem indexB (s : ByteArray) (c : Int) (k : Int) (h : Lib.indexByte s.data.toList c.toNat.toUInt8 = k) (w : World) : Calls Tryd.prog 41 #[.string s, .int .u8 c] w fun e w' => e = .returned (.int .i64 k) ∧ w = w' := by
  subst h
  exact (Tryd.strings_IndexByte s c w).mono fun _ _ ⟨h1, h2⟩ => ⟨h1, h2.symm⟩
def escK (c : Int) : Int := if c = 110 then 0 else if c = 114 then 1 else if c = 116 then 2 else if c = 92 then 3 else -1
theorem indexByte_nil (c : UInt8) : Lib.indexByte [] c = -1 := rfl
theorem decEsc_end (o : List UInt8) : decEsc [92] o = none := rfl
theorem decEsc_own (c : UInt8) (r o : List UInt8) (h : c ≠ 92) : decEsc (c :: r) o = decEsc r (o ++ [c]) := by
  match r with
  | [] => exact if_neg h
  | [_] => exact if_neg h
  | [_, _] => exact if_neg h
  | _ :: _ :: _ :: r' => exact if_neg h
def escO (d : UInt8) (r o : List UInt8) : Option (List UInt8) :=
  if d = 110 then decEsc r (o ++ [10]) else if d = 114 then decEsc r (o ++ [13]) else if d = 116 then decEsc r (o ++ [9]) else if d = 92 then decEsc r (o ++ [92])
  else if d = 120 then (match twoAt r with | none => none | some x => decEsc (r.drop 2) (o ++ [x])) else none
theorem escO_none (d : UInt8) (r o : List UInt8) (h1 : d ≠ 110) (h2 : d ≠ 114) (h3 : d ≠ 116) (h4 : d ≠ 92) (h5 : d ≠ 120) : escO d r o = none := by
  unfold escO
  rw [if_neg h1, if_neg h2, if_neg h3, if_neg h4, if_neg h5]
theorem decEsc_esc (d : UInt8) (r o : List UInt8) : decEsc (92 :: d :: r) o = escO d r o := by
  match r with
  | [] => rfl
  | [_] => rfl
  | a :: b :: r' => rfl
theorem u8_int (c : Int) (v : UInt8) (h : Hid (c = v.toNat)) : c.toNat.toUInt8 = v := by
  rw [h.out]; simp
theorem all_u8 {p : UInt8 → Prop} (h : ∀ n : Fin 256, p (UInt8.ofNat n.val)) (v : UInt8) : p v := by
  have h1 := h ⟨v.toNat, v.toNat_lt⟩
  simpa using h1
theorem idx_esc0 : ∀ n : Fin 256, Lib.indexByte [110, 114, 116, 92] (UInt8.ofNat n.val) = escK ((UInt8.ofNat n.val).toNat : Int) := by decide +kernel
theorem idx_escapes (c : Int) (v : UInt8) (h : Hid (c = v.toNat)) : Lib.indexByte (⟨#[110, 114, 116, 92]⟩ : ByteArray).data.toList c.toNat.toUInt8 = escK c := by
  rw [u8_int c v h, h.out]
  exact all_u8 (p := fun v => Lib.indexByte [110, 114, 116, 92] v = escK (v.toNat : Int)) idx_esc0 v
/-- The rounds of the fourth coding's decoder, in plain words. -/
theorem esc_own (s : ByteArray) (k : Nat) (l : List UInt8) (u : UInt8) (c : Int) (hk : k < s.size) (hus : Hid (u = s[k])) (hcu : Hid (c = u.toNat)) (h : ¬ c = 92) (R : Option (List UInt8)) (HR : Hid (decEsc ((bl s).drop k) l = R)) :
    Hid (decEsc ((bl s).drop (k + 1)) (l ++ [u]) = R) := by
  have hu := u8_ne (n := 92) hcu (by decide) h
  have := HR.out
  rw [drop_byte s k hk, ← hus.out, decEsc_own _ _ _ hu] at this
  exact this
theorem esc_end (s : ByteArray) (k : Nat) (l : List UInt8) (u : UInt8) (c : Int) (hk : k + 1 = s.size) (hus : Hid (u = s[k])) (hcu : Hid (c = u.toNat)) (h : c = 92) (R : Option (List UInt8)) (HR : Hid (decEsc ((bl s).drop k) l = R)) : R = none := by
  have hu := u8_of (n := 92) hcu (by decide) h
  have := HR.out
  rw [drop_byte s k (by omega), ← hus.out, hu, List.drop_eq_nil_of_le (by rw [size_list]; omega)] at this
  exact this.symm
theorem esc_esc (s : ByteArray) (k : Nat) (l : List UInt8) (u v : UInt8) (c d : Int) (hk : k + 1 < s.size) (hus : Hid (u = s[k])) (hcu : Hid (c = u.toNat)) (h : c = 92) (hvs : Hid (v = s[k + 1])) (R : Option (List UInt8)) (HR : Hid (decEsc ((bl s).drop k) l = R)) :
    Hid (R = escO v ((bl s).drop (k + 2)) l) := by
  have hu := u8_of (n := 92) hcu (by decide) h
  have := HR.out
  rw [drop_byte s k (by omega), drop_byte s (k + 1) hk, ← hus.out, hu, ← hvs.out] at this
  show R = _
  rw [← this]
  exact decEsc_esc _ _ _
set_option maxHeartbeats 4000000 in
theorem decodeEscape_any (s : ByteArray) (w : World) (hs : s.size ≤ 1000000) : Calls Tryd.prog 32 #[.string s] w (DecPost (decEsc (bl s) []) w) := by
  obtain ⟨i0, hi, hz0, hz1, hz2⟩ := info_parts info_u8
  go_enter Tryd.func32, Tryd.ntmps32
  go_wp2
  go_loopw [4, 5] (fun v i wr => ∃ (k : Nat) (l : List UInt8), k ≤ s.size ∧ i = .int .i64 (k : Int) ∧ l.length ≤ k ∧ OB 5 w.heap.size v l wr ∧ Below w.heap.size w wr ∧ decEsc ((bl s).drop k) l = decEsc (bl s) []) (fun _ i _ => s.size - (intOf i).toNat)
  case atStart => exact ⟨0, [], by omega, rfl, by simp, OB.nil_ _ _ _, Below.refl _ _, rfl⟩
  case round =>
    obtain ⟨k, l, hk, rfl, hl, hown, hbel, hrel⟩ := hrel
    have HR := Lib.hid hrel; clear hrel
    by_cases hlt : k < s.size
    · have hd : decide ((k : Int) < s.size) = true := decide_eq_true (by omega)
      obtain ⟨u, c, hus, hcu, hc0, hc1, hix⟩ := idx_str Tryd.underlying9 s k hlt .i64 (k : Int) rfl
      by_cases h92 : c = 92
      · by_cases hend : k + 1 = s.size
        · have hfin := esc_end s k l u c hend hus hcu h92 _ HR
          have hd2 : ((k : Int) + 1 == s.size) = true := beq_iff_eq.2 (by omega)
          clear hcu HR
          subst h92
          clear hend
          go_wp2
          go_ret2
          exact DecPost.none_ hfin hbel
        · have hd2 : ((k : Int) + 1 == s.size) = false := by rw [beq_eq_false_iff_ne]; omega
          have hd3 : ¬ ((k : Int) + 1 = s.size) := by omega
          obtain ⟨v, d, hvs, hdv, hd0, hd1, hix2⟩ := idx_str Tryd.underlying9 s (k + 1) (by omega) .i64 ((k : Int) + 1) (by omega)
          have HS := esc_esc s k l u v c d (by omega) hus hcu h92 hvs _ HR
          have hie := idx_escapes d v hdv
          have T := two_any s ((k : Int) + 1 + 1) (k + 2) (by omega) wr hs (by omega)
          clear hcu hend
          subst h92
          go_wp2_with fail
          refine T.mono ?_
          rintro e w1 ⟨y, r, rfl, hy, hxx, q, rfl⟩
          have hown1 := OB.drew hown q
          have hbel1 := Below.drewN' hbel q
          rcases (show d = 110 ∨ d = 114 ∨ d = 116 ∨ d = 92 ∨ d = 120 ∨ (d ≠ 110 ∧ d ≠ 114 ∧ d ≠ 116 ∧ d ≠ 92 ∧ d ≠ 120) by omega) with hq | hq | hq | hq | hq | ⟨q1, q2, q3, q4, q5⟩
          · have HV := Lib.hid (u8_of (n := 110) hdv (by decide) hq)
            have IX := fun w => indexB (⟨#[110, 114, 116, 92]⟩ : ByteArray) d 0 (by rw [hie, hq]; rfl) w
            clear hie hdv
            subst hq
            go_wp2_with fail
            refine (IX _).mono ?_
            rintro e w2 ⟨rfl, rfl⟩
            go_wp2_with (at_builtin; refine app_u8 Tryd.underlying23 hi hz0 hz1 hz2 _ _ _ _ _ (10 : UInt8) _ rfl rfl rfl rfl hown1 rfl (by omega) hbel1.size ?_; intro v1 w3 hown3 hb3 _ _)
            go_roundw
            case rel =>
              have hs2 := HS.out
              rw [HV.out] at hs2
              exact ⟨k + 2, _, by omega, by go_num, by simp; omega, hown3, hbel1.trans hb3, hs2.symm⟩
            case measure => simp [intOf]; omega
          · have HV := Lib.hid (u8_of (n := 114) hdv (by decide) hq)
            have IX := fun w => indexB (⟨#[110, 114, 116, 92]⟩ : ByteArray) d 1 (by rw [hie, hq]; rfl) w
            clear hie hdv
            subst hq
            go_wp2_with fail
            refine (IX _).mono ?_
            rintro e w2 ⟨rfl, rfl⟩
            go_wp2_with (at_builtin; refine app_u8 Tryd.underlying23 hi hz0 hz1 hz2 _ _ _ _ _ (13 : UInt8) _ rfl rfl rfl rfl hown1 rfl (by omega) hbel1.size ?_; intro v1 w3 hown3 hb3 _ _)
            go_roundw
            case rel =>
              have hs2 := HS.out
              rw [HV.out] at hs2
              exact ⟨k + 2, _, by omega, by go_num, by simp; omega, hown3, hbel1.trans hb3, hs2.symm⟩
            case measure => simp [intOf]; omega
          · have HV := Lib.hid (u8_of (n := 116) hdv (by decide) hq)
            have IX := fun w => indexB (⟨#[110, 114, 116, 92]⟩ : ByteArray) d 2 (by rw [hie, hq]; rfl) w
            clear hie hdv
            subst hq
            go_wp2_with fail
            refine (IX _).mono ?_
            rintro e w2 ⟨rfl, rfl⟩
            go_wp2_with (at_builtin; refine app_u8 Tryd.underlying23 hi hz0 hz1 hz2 _ _ _ _ _ (9 : UInt8) _ rfl rfl rfl rfl hown1 rfl (by omega) hbel1.size ?_; intro v1 w3 hown3 hb3 _ _)
            go_roundw
            case rel =>
              have hs2 := HS.out
              rw [HV.out] at hs2
              exact ⟨k + 2, _, by omega, by go_num, by simp; omega, hown3, hbel1.trans hb3, hs2.symm⟩
            case measure => simp [intOf]; omega
          · have HV := Lib.hid (u8_of (n := 92) hdv (by decide) hq)
            have IX := fun w => indexB (⟨#[110, 114, 116, 92]⟩ : ByteArray) d 3 (by rw [hie, hq]; rfl) w
            clear hie hdv
            subst hq
            go_wp2_with fail
            refine (IX _).mono ?_
            rintro e w2 ⟨rfl, rfl⟩
            go_wp2_with (at_builtin; refine app_u8 Tryd.underlying23 hi hz0 hz1 hz2 _ _ _ _ _ (92 : UInt8) _ rfl rfl rfl rfl hown1 rfl (by omega) hbel1.size ?_; intro v1 w3 hown3 hb3 _ _)
            go_roundw
            case rel =>
              have hs2 := HS.out
              rw [HV.out] at hs2
              exact ⟨k + 2, _, by omega, by go_num, by simp; omega, hown3, hbel1.trans hb3, hs2.symm⟩
            case measure => simp [intOf]; omega
          · have HV := Lib.hid (u8_of (n := 120) hdv (by decide) hq)
            have IX := fun w => indexB (⟨#[110, 114, 116, 92]⟩ : ByteArray) d (-1) (by rw [hie, hq]; rfl) w
            have hs2 := HS.out
            rw [HV.out] at hs2
            have hs3 : decEsc (bl s) [] = (match twoAt ((bl s).drop (k + 2)) with | none => none | some x => decEsc ((bl s).drop (k + 4)) (l ++ [x])) := by
              rw [hs2]
              show (match twoAt ((bl s).drop (k + 2)) with | none => none | some x => decEsc (((bl s).drop (k + 2)).drop 2) (l ++ [x])) = _
              rw [List.drop_drop]
            clear hie hdv hs2
            subst hq
            cases hx : twoAt ((bl s).drop (k + 2)) with
            | none =>
              rw [hx] at hs3
              simp only [Option.isSome]
              go_wp2_with fail
              refine (IX _).mono ?_
              rintro e w2 ⟨rfl, rfl⟩
              go_wp2
              go_ret2
              exact DecPost.none_ hs3 hbel1
            | some x =>
              have hsz : k + 4 ≤ s.size := by
                rcases Nat.lt_or_ge s.size (k + 4) with h | h
                · rw [twoAt_short s (k + 2) (by omega)] at hx; simp at hx
                · exact h
              rw [hx] at hs3
              obtain rfl := hxx.out x hx
              have H3 := Lib.hid hs3; clear hs3
              have HX := Lib.hid hx; clear hx
              simp only [Option.isSome]
              go_wp2_with fail
              refine (IX _).mono ?_
              rintro e w2 ⟨rfl, rfl⟩
              go_wp2_with (at_builtin; refine app_u8 Tryd.underlying23 hi hz0 hz1 hz2 _ _ _ _ _ y _ rfl rfl rfl rfl hown1 hy.out (by omega) hbel1.size ?_; intro v1 w3 hown3 hb3 _ _)
              go_roundw
              case rel => exact ⟨k + 4, _, by omega, by go_num, by simp; omega, hown3, hbel1.trans hb3, H3.out.symm⟩
              case measure => simp [intOf]; omega
          · have IX := fun w => indexB (⟨#[110, 114, 116, 92]⟩ : ByteArray) d (-1) (by rw [hie]; unfold escK; rw [if_neg q1, if_neg q2, if_neg q3, if_neg q4]) w
            have hs2 : decEsc (bl s) [] = none := by
              rw [HS.out]
              exact escO_none _ _ _ (u8_ne (n := 110) hdv (by decide) q1) (u8_ne (n := 114) hdv (by decide) q2) (u8_ne (n := 116) hdv (by decide) q3) (u8_ne (n := 92) hdv (by decide) q4) (u8_ne (n := 120) hdv (by decide) q5)
            clear hie hdv
            go_wp2_with fail
            refine (IX _).mono ?_
            rintro e w2 ⟨rfl, rfl⟩
            go_wp2
            go_ret2
            exact DecPost.none_ hs2 hbel1
      · have HS := esc_own s k l u c hlt hus hcu h92 _ HR
        go_wp2_with (at_builtin; refine app_u8 Tryd.underlying23 hi hz0 hz1 hz2 _ _ _ _ _ u _ rfl rfl rfl rfl hown hcu.out (by omega) hbel.size ?_; intro v1 w3 hown3 hb3 _ _)
        go_roundw
        case rel => exact ⟨k + 1, _, by omega, by go_num, by simp; omega, hown3, hbel.trans hb3, HS.out⟩
        case measure => simp [intOf]; omega
    · obtain rfl : k = s.size := by omega
      have hfin : decEsc (bl s) [] = some l := by rw [← HR.out, List.drop_eq_nil_of_le (by rw [size_list]; omega)]; rfl
      go_wp2
      go_ret2
      exact DecPost.some_ hfin hown hbel
end Go.Proofs.YtpfldcfnbgdceaaDoor
