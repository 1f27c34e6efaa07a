/- Walks of the code's encoders of the third and the fourth coding. -/
import Derived.Deep.RegionHeld3
import Derived.Test.YthmpcdjhighhgaaGreatDoorY09
import Derived.Test.YthmpcdjhighhgaaGreatDoorY10
namespace Go.Proofs.YthmpcdjhighhgaaGreatDoor
set_option linter.unusedVariables false
set_option linter.unusedSimpArgs false
set_option maxRecDepth 100000
open Go.RowKit
theorem Hex_at {n : Nat} (h : n < 16) : (⟨#[48, 49, 50, 51, 52, 53, 54, 55, 56, 57, 65, 66, 67, 68, 69, 70]⟩ : ByteArray)[n]'(by exact h) = Hexd n := by
  rcases nat16 h with h | h | h | h | h | h | h | h | h | h | h | h | h | h | h | h <;> (subst h; rfl)
theorem idx_Hex (k : IntKind) (y : Int) (h0 : 0 ≤ y) (h1 : y < 16) (w : World) : (Instr.index 9 (.string ⟨#[48, 49, 50, 51, 52, 53, 54, 55, 56, 57, 65, 66, 67, 68, 69, 70]⟩) (.int k y)).run Tryz.prog w = .ok (.int .u8 (Hexd y).toNat) w := by
  obtain ⟨n, rfl⟩ := Int.eq_ofNat_of_zero_le h0
  have hn : n < 16 := by omega
  have h := run_idx_str (P := Tryz.prog) Tryz.underlying9 (⟨#[48, 49, 50, 51, 52, 53, 54, 55, 56, 57, 65, 66, 67, 68, 69, 70]⟩ : ByteArray) n hn k (n : Int) rfl w
  rw [Hex_at hn] at h
  exact h
theorem enc_u8 (u : UInt8) (h : u.toNat < 128) : Utf8.encode (u.toNat : Int) = bs [u] := by
  rw [enc1 (by omega) (by omega)]; simp
theorem Hexd_lt (y : Int) (h0 : 0 ≤ y) (h1 : y < 16) : (Hexd y).toNat < 128 := by
  obtain ⟨n, rfl⟩ := Int.eq_ofNat_of_zero_le h0
  rcases nat16 (show n < 16 by omega) with h | h | h | h | h | h | h | h | h | h | h | h | h | h | h | h <;> (subst h; decide)
theorem hexd_lt (y : Int) (h0 : 0 ≤ y) (h1 : y < 16) : (hexd y).toNat < 128 := by
  obtain ⟨n, rfl⟩ := Int.eq_ofNat_of_zero_le h0
  rcases nat16 (show n < 16 by omega) with h | h | h | h | h | h | h | h | h | h | h | h | h | h | h | h <;> (subst h; decide)
theorem bl_three (p : List UInt8) (a b : UInt8) : bl ((⟨p.toArray⟩ : ByteArray) ++ bs [a] ++ bs [b]) = p ++ [a, b] := by
  rw [cat_bl, cat_bl]; simp [bl]
def pctK (c : Int) : Int := if c = 45 then 0 else if c = 46 then 1 else if c = 95 then 2 else if c = 126 then 3 else -1
theorem idx_pct0 : ∀ n : Fin 256, Lib.indexByte [45, 46, 95, 126] (UInt8.ofNat n.val) = pctK ((UInt8.ofNat n.val).toNat : Int) := by decide +kernel
theorem idx_pct (c : Int) (v : UInt8) (h : Hid (c = v.toNat)) : Lib.indexByte (⟨#[45, 46, 95, 126]⟩ : ByteArray).data.toList c.toNat.toUInt8 = pctK c := by
  rw [u8_int c v h, h.out]
  exact all_u8 (p := fun v => Lib.indexByte [45, 46, 95, 126] v = pctK (v.toNat : Int)) idx_pct0 v
theorem pct_pln {v : UInt8} {c : Int} (h : Hid (c = v.toNat)) (hp : pln c = true) : pctE v = [v] := by
  unfold pctE; rw [← h.out, if_pos hp]
theorem pct_not {v : UInt8} {c : Int} (h : Hid (c = v.toNat)) (hp : pln c = false) : pctE v = [37, Hexd (c / 16), Hexd (c % 16)] := by
  unfold pctE; rw [← h.out, if_neg (by rw [hp]; decide)]
theorem encF_step (f : UInt8 → List UInt8) (l o x R : List UInt8) (k : Nat) (hk : k < l.length) (h : Hid (o ++ encF f (l.drop k) = R)) (hx : f l[k] = x) : Hid ((o ++ x) ++ encF f (l.drop (k + 1)) = R) := by
  show _ = _
  rw [← h.out, List.drop_eq_getElem_cons hk, encF, hx]; simp
set_option maxHeartbeats 1000000 in
theorem encodePercent_any (v : Value) (l : List UInt8) (w : World) (hl : l.length ≤ 100000) (hv : BIn w.heap.size w v l) :
    Calls Tryz.prog 149 #[v] w fun e w' => e = .returned (.string (bs (encF pctE l))) ∧ Below w.heap.size w w' := by
  obtain ⟨A, n, c, rfl, rfl, -, hcell⟩ := hv
  go_enter Tryz.func149, Tryz.ntmps149
  go_wp2
  generalize hw0 : w.alloc (Obj.cells #[Value.pointer none, Value.slice none 0 0] 208) = w0
  have hb0 : Below w.heap.size w w0 := hw0 ▸ (Below.refl _ w).alloc (Nat.le_refl _) _
  have hi0 : IsB w.heap.size [] w0 := ⟨by rw [← hw0]; exact Lib.fresh_isBuilder _ _ w, hb0.size⟩
  clear hw0
  go_loopw [8] (fun i wr => ∃ (k : Nat) (o : List UInt8), k ≤ l.length ∧ i = .int .i64 (k : Int) ∧ IsB w.heap.size o wr ∧ o.length ≤ 3 * k ∧ Below w.heap.size w wr ∧ Hid (o ++ encF pctE (l.drop k) = encF pctE l)) (fun i _ => l.length - (intOf i).toNat)
  case atStart => exact ⟨0, [], by omega, rfl, hi0, by simp, hb0, rfl⟩
  case round =>
    obtain ⟨k, o, hk, rfl, hown, ho, hbel, HR⟩ := hrel
    by_cases hlt : k < l.length
    · have hd : decide ((k : Int) < l.length) = true := decide_eq_true (by omega)
      obtain ⟨ad, rfl, hadb, hcs⟩ := hcell.resolve_left (by omega)
      have hcl0 : wr.cell? (ad.add k) = w.cell? (ad.add k) := World.cell?_of_block (by rw [Reads_block]; exact hbel.block ad.block hadb)
      have hcl := hcl0.trans (hcs k hlt)
      clear hcl0 hcs
      have HS := fun x h => encF_step pctE l o x _ k hlt HR h
      clear HR
      generalize l[k] = v at hcl HS
      obtain ⟨c', hc', hc0, hc1⟩ := (⟨_, rfl, by omega, byte_lt _⟩ : ∃ c : Int, (v.toNat : Int) = c ∧ 0 ≤ c ∧ c < 256)
      have HC := Lib.hid hc'.symm
      rw [hc'] at hcl
      clear hc'
      have L := fun w => letter_c c' w hc0 hc1
      by_cases hp : pln c' = true
      · have HS := HS _ (pct_pln HC hp)
        cases hlc : ltr c' with
        | true =>
          rw [hlc] at L
          clear hlc hp
          go_wp2_with (first | (go_at_call 195; refine (L _).mono ?_; rintro e w1 ⟨rfl, rfl⟩))
          refine (builder_byte _ o _ v HC.out _ hown (by omega)).mono ?_
          rintro e w1 ⟨rfl, hown1, hb1⟩
          go_wp2
          go_roundw
          case rel => exact ⟨k + 1, _, by omega, by go_num, hown1, by simp; omega, hbel.trans hb1, HS⟩
          case measure => simp [intOf]; omega
        | false =>
          have hin : c' = 45 ∨ c' = 46 ∨ c' = 95 ∨ c' = 126 := by simp [pln, hlc] at hp; exact hp
          rw [hlc] at L
          have hix := idx_pct c' v HC
          obtain ⟨j, hj0, hj⟩ : ∃ j : Int, 0 ≤ j ∧ pctK c' = j := by rcases hin with rfl | rfl | rfl | rfl <;> exact ⟨_, by decide, rfl⟩
          have IX := fun w => indexB (⟨#[45, 46, 95, 126]⟩ : ByteArray) c' j (hix.trans hj) w
          clear hlc hp hin hix hj
          go_wp2_with (first | (go_at_call 195; refine (L _).mono ?_; rintro e w1 ⟨rfl, rfl⟩) | (go_at_call 78; refine (IX _).mono ?_; rintro e w1 ⟨rfl, rfl⟩))
          refine (builder_byte _ o _ v HC.out _ hown (by omega)).mono ?_
          rintro e w1 ⟨rfl, hown1, hb1⟩
          go_wp2
          go_roundw
          case rel => exact ⟨k + 1, _, by omega, by go_num, hown1, by simp; omega, hbel.trans hb1, HS⟩
          case measure => simp [intOf]; omega
      · have hp : pln c' = false := by simpa using hp
        have HS := HS _ (pct_not HC hp)
        have hlc : ltr c' = false := by simp [pln] at hp; exact hp.1
        have hj : pctK c' = -1 := by simp [pln] at hp; unfold pctK; rw [if_neg hp.2.1, if_neg hp.2.2.1, if_neg hp.2.2.2.1, if_neg hp.2.2.2.2]
        rw [hlc] at L
        have IX := fun w => indexB (⟨#[45, 46, 95, 126]⟩ : ByteArray) c' (-1) ((idx_pct c' v HC).trans hj) w
        clear hlc hj hp
        obtain ⟨y, hy⟩ : ∃ y, bits .and .u8 c' 15 = y := ⟨_, rfl⟩
        have hyb : c' % 16 = y := by rw [← hy]; exact (and15_u8 c' hc0 hc1).symm
        rw [hyb] at HS
        have hy0 : 0 ≤ y := by omega
        have hy1 : y < 16 := by omega
        have hix := idx_Hex .u8 (c' / 16) (by omega) (by omega)
        have hix2 := idx_Hex .u8 y hy0 hy1
        have he1 := enc_u8 _ (Hexd_lt (c' / 16) (by omega) (by omega))
        have he2 := enc_u8 _ (Hexd_lt y hy0 hy1)
        have h3 := Lib.hid (bl_three [37] (Hexd (c' / 16)) (Hexd y))
        have hs3 : ((⟨#[37]⟩ : ByteArray) ++ bs [Hexd (c' / 16)] ++ bs [Hexd y]).size ≤ 1000000 := by rw [← size_list, bl_three [37]]; simp
        have hs2 : ((⟨#[37]⟩ : ByteArray) ++ bs [Hexd (c' / 16)]).size = 2 := by simp [ByteArray.size_append, size_bs]; rfl
        clear hyb
        generalize Hexd (c' / 16) = a at *
        generalize Hexd y = b at *
        have hsa := size_bs1 a
        have hsb := size_bs1 b
        go_wp2_with (first | (go_at_call 195; refine (L _).mono ?_; rintro e w1 ⟨rfl, rfl⟩) | (go_at_call 78; refine (IX _).mono ?_; rintro e w1 ⟨rfl, rfl⟩))
        have hownd := (show IsB w.heap.size o wr.drew from hown)
        go_region_held3 (fun _ => True) (trivial) ((go_at_call 134; refine (builder_str _ o _ _ hownd (by omega) hs3).mono ?_; rintro e w1 ⟨rfl, hown1, hb1⟩))
        all_goals
          rw [h3.out] at hown1
          go_wp2
          go_roundw
          case rel => exact ⟨k + 1, _, by omega, by go_num, hown1, by simp; omega, hbel.drew.trans hb1, HS⟩
          case measure => simp [intOf]; omega
    · obtain rfl : k = l.length := by omega
      go_wp2_with (go_at_call 135; refine (builder_string _ _ o _ hown.1 hown.2).mono ?_; rintro e w1 ⟨rfl, hb1⟩)
      go_ret
      exact ⟨ret_str (by rw [← HR.out]; simp [encF]), hbel.trans hb1⟩
def esdK (c : Int) : Int := if c = 10 then 0 else if c = 13 then 1 else if c = 9 then 2 else if c = 92 then 3 else -1
theorem idx_esd0 : ∀ n : Fin 256, Lib.indexByte [10, 13, 9, 92] (UInt8.ofNat n.val) = esdK ((UInt8.ofNat n.val).toNat : Int) := by decide +kernel
theorem idx_esd (c : Int) (v : UInt8) (h : Hid (c = v.toNat)) : Lib.indexByte (⟨#[10, 13, 9, 92]⟩ : ByteArray).data.toList c.toNat.toUInt8 = esdK c := by
  rw [u8_int c v h, h.out]
  exact all_u8 (p := fun v => Lib.indexByte [10, 13, 9, 92] v = esdK (v.toNat : Int)) idx_esd0 v
theorem esc_hex {v : UInt8} {c : Int} (h : Hid (c = v.toNat)) (h1 : ¬ c = 10) (h2 : ¬ c = 13) (h3 : ¬ c = 9) (h4 : ¬ c = 92) (hp : c < 32 ∨ 126 < c) : escE v = [92, 120, hexd (c / 16), hexd (c % 16)] := by
  unfold escE
  rw [if_neg (show ¬ v = 10 from u8_ne (n := 10) h (by decide) h1), if_neg (show ¬ v = 13 from u8_ne (n := 13) h (by decide) h2), if_neg (show ¬ v = 9 from u8_ne (n := 9) h (by decide) h3), if_neg (show ¬ v = 92 from u8_ne (n := 92) h (by decide) h4), ← h.out, if_pos (by have := h.out; omega)]
theorem esc_own1 {v : UInt8} {c : Int} (h : Hid (c = v.toNat)) (h1 : ¬ c = 10) (h2 : ¬ c = 13) (h3 : ¬ c = 9) (h4 : ¬ c = 92) (hp : 32 ≤ c) (hp2 : c ≤ 126) : escE v = [v] := by
  unfold escE
  rw [if_neg (show ¬ v = 10 from u8_ne (n := 10) h (by decide) h1), if_neg (show ¬ v = 13 from u8_ne (n := 13) h (by decide) h2), if_neg (show ¬ v = 9 from u8_ne (n := 9) h (by decide) h3), if_neg (show ¬ v = 92 from u8_ne (n := 92) h (by decide) h4), if_neg (by have := h.out; omega)]
set_option maxHeartbeats 2000000 in
theorem encodeEscape_any (v : Value) (l : List UInt8) (w : World) (hl : l.length ≤ 100000) (hv : BIn w.heap.size w v l) :
    Calls Tryz.prog 150 #[v] w fun e w' => e = .returned (.string (bs (encF escE l))) ∧ Below w.heap.size w w' := by
  obtain ⟨A, n, c, rfl, rfl, -, hcell⟩ := hv
  go_enter Tryz.func150, Tryz.ntmps150
  go_wp2
  generalize hw0 : w.alloc (Obj.cells #[Value.pointer none, Value.slice none 0 0] 208) = w0
  have hb0 : Below w.heap.size w w0 := hw0 ▸ (Below.refl _ w).alloc (Nat.le_refl _) _
  have hi0 : IsB w.heap.size [] w0 := ⟨by rw [← hw0]; exact Lib.fresh_isBuilder _ _ w, hb0.size⟩
  clear hw0
  go_loopw [9] (fun i wr => ∃ (k : Nat) (o : List UInt8), k ≤ l.length ∧ i = .int .i64 (k : Int) ∧ IsB w.heap.size o wr ∧ o.length ≤ 4 * k ∧ Below w.heap.size w wr ∧ Hid (o ++ encF escE (l.drop k) = encF escE l)) (fun i _ => l.length - (intOf i).toNat)
  case atStart => exact ⟨0, [], by omega, rfl, hi0, by simp, hb0, rfl⟩
  case round =>
    obtain ⟨k, o, hk, rfl, hown, ho, hbel, HR⟩ := hrel
    by_cases hlt : k < l.length
    · have hd : decide ((k : Int) < l.length) = true := decide_eq_true (by omega)
      obtain ⟨ad, rfl, hadb, hcs⟩ := hcell.resolve_left (by omega)
      have hcl0 : wr.cell? (ad.add k) = w.cell? (ad.add k) := World.cell?_of_block (by rw [Reads_block]; exact hbel.block ad.block hadb)
      have hcl := hcl0.trans (hcs k hlt)
      clear hcl0 hcs
      have HS := fun x h => encF_step escE l o x _ k hlt HR h
      clear HR
      generalize l[k] = v at hcl HS
      obtain ⟨c', hc', hc0, hc1⟩ := (⟨_, rfl, by omega, byte_lt _⟩ : ∃ c : Int, (v.toNat : Int) = c ∧ 0 ≤ c ∧ c < 256)
      have HC := Lib.hid hc'.symm
      rw [hc'] at hcl
      clear hc'
      have hix := idx_esd c' v HC
      rcases (show c' = 10 ∨ c' = 13 ∨ c' = 9 ∨ c' = 92 ∨ (c' ≠ 10 ∧ c' ≠ 13 ∧ c' ≠ 9 ∧ c' ≠ 92) by omega) with hq | hq | hq | hq | ⟨q1, q2, q3, q4⟩
      · have HS := HS _ (by rw [u8_of (n := 10) HC (by decide) hq]; rfl : escE v = [92, 110])
        have IX := fun w => indexB (⟨#[10, 13, 9, 92]⟩ : ByteArray) c' 0 (by rw [hix, hq]; rfl) w
        clear hix HC
        subst hq
        go_wp2_with fail
        refine (IX _).mono ?_
        rintro e w1 ⟨rfl, rfl⟩
        go_wp2_with fail
        refine (builder_str _ o (⟨#[92, 110]⟩ : ByteArray) _ hown (by omega) (by decide)).mono ?_
        rintro e w1 ⟨rfl, hown1, hb1⟩
        go_wp2
        go_roundw
        case rel => exact ⟨k + 1, _, by omega, by go_num, hown1, by rw [List.length_append]; show o.length + 2 ≤ _; omega, hbel.trans hb1, HS⟩
        case measure => simp [intOf]; omega
      · have HS := HS _ (by rw [u8_of (n := 13) HC (by decide) hq]; rfl : escE v = [92, 114])
        have IX := fun w => indexB (⟨#[10, 13, 9, 92]⟩ : ByteArray) c' 1 (by rw [hix, hq]; rfl) w
        clear hix HC
        subst hq
        go_wp2_with fail
        refine (IX _).mono ?_
        rintro e w1 ⟨rfl, rfl⟩
        go_wp2_with fail
        refine (builder_str _ o (⟨#[92, 114]⟩ : ByteArray) _ hown (by omega) (by decide)).mono ?_
        rintro e w1 ⟨rfl, hown1, hb1⟩
        go_wp2
        go_roundw
        case rel => exact ⟨k + 1, _, by omega, by go_num, hown1, by rw [List.length_append]; show o.length + 2 ≤ _; omega, hbel.trans hb1, HS⟩
        case measure => simp [intOf]; omega
      · have HS := HS _ (by rw [u8_of (n := 9) HC (by decide) hq]; rfl : escE v = [92, 116])
        have IX := fun w => indexB (⟨#[10, 13, 9, 92]⟩ : ByteArray) c' 2 (by rw [hix, hq]; rfl) w
        clear hix HC
        subst hq
        go_wp2_with fail
        refine (IX _).mono ?_
        rintro e w1 ⟨rfl, rfl⟩
        go_wp2_with fail
        refine (builder_str _ o (⟨#[92, 116]⟩ : ByteArray) _ hown (by omega) (by decide)).mono ?_
        rintro e w1 ⟨rfl, hown1, hb1⟩
        go_wp2
        go_roundw
        case rel => exact ⟨k + 1, _, by omega, by go_num, hown1, by rw [List.length_append]; show o.length + 2 ≤ _; omega, hbel.trans hb1, HS⟩
        case measure => simp [intOf]; omega
      · have HS := HS _ (by rw [u8_of (n := 92) HC (by decide) hq]; rfl : escE v = [92, 92])
        have IX := fun w => indexB (⟨#[10, 13, 9, 92]⟩ : ByteArray) c' 3 (by rw [hix, hq]; rfl) w
        clear hix HC
        subst hq
        go_wp2_with fail
        refine (IX _).mono ?_
        rintro e w1 ⟨rfl, rfl⟩
        go_wp2_with fail
        refine (builder_str _ o (⟨#[92, 92]⟩ : ByteArray) _ hown (by omega) (by decide)).mono ?_
        rintro e w1 ⟨rfl, hown1, hb1⟩
        go_wp2
        go_roundw
        case rel => exact ⟨k + 1, _, by omega, by go_num, hown1, by rw [List.length_append]; show o.length + 2 ≤ _; omega, hbel.trans hb1, HS⟩
        case measure => simp [intOf]; omega
      · have IX := fun w => indexB (⟨#[10, 13, 9, 92]⟩ : ByteArray) c' (-1) (by rw [hix]; unfold esdK; rw [if_neg q1, if_neg q2, if_neg q3, if_neg q4]) w
        clear hix
        by_cases hp : c' < 32 ∨ 126 < c'
        · have HS := HS _ (esc_hex HC q1 q2 q3 q4 hp)
          clear q1 q2 q3 q4
          obtain ⟨y, hy⟩ : ∃ y, bits .and .u8 c' 15 = y := ⟨_, rfl⟩
          have hyb : c' % 16 = y := by rw [← hy]; exact (and15_u8 c' hc0 hc1).symm
          rw [hyb] at HS
          have hy0 : 0 ≤ y := by omega
          have hy1 : y < 16 := by omega
          have hix := idx_hex .u8 (c' / 16) (by omega) (by omega)
          have hix2 := idx_hex .u8 y hy0 hy1
          have he1 := enc_u8 _ (hexd_lt (c' / 16) (by omega) (by omega))
          have he2 := enc_u8 _ (hexd_lt y hy0 hy1)
          have h3 := Lib.hid (bl_three [92, 120] (hexd (c' / 16)) (hexd y))
          have hs3 : ((⟨#[92, 120]⟩ : ByteArray) ++ bs [hexd (c' / 16)] ++ bs [hexd y]).size ≤ 1000000 := by rw [← size_list, bl_three [92, 120]]; simp
          have hs2 : ((⟨#[92, 120]⟩ : ByteArray) ++ bs [hexd (c' / 16)]).size = 3 := by simp [ByteArray.size_append, size_bs]; rfl
          clear hyb
          generalize hexd (c' / 16) = a at *
          generalize hexd y = b at *
          have hsa := size_bs1 a
          have hsb := size_bs1 b
          have hownd := (show IsB w.heap.size o wr.drew from hown)
          by_cases hp1 : c' < 32
          · have hp1' : decide (c' < 32) = true := decide_eq_true hp1
            clear hp1 hp
            go_wp2_with fail
            refine (IX _).mono ?_
            rintro e w1 ⟨rfl, rfl⟩
            go_wp2_with fail
            go_region_held3 (fun _ => True) (trivial) ((go_at_call 134; refine (builder_str _ o _ _ hownd (by omega) hs3).mono ?_; rintro e w1 ⟨rfl, hown1, hb1⟩))
            all_goals
              rw [h3.out] at hown1
              go_wp2
              go_roundw
              case rel => exact ⟨k + 1, _, by omega, by go_num, hown1, by simp; omega, hbel.drew.trans hb1, HS⟩
              case measure => simp [intOf]; omega
          · have hp1' : decide (c' < 32) = false := decide_eq_false hp1
            have hp2' : decide (126 < c') = true := decide_eq_true (hp.resolve_left hp1)
            clear hp1 hp
            go_wp2_with fail
            refine (IX _).mono ?_
            rintro e w1 ⟨rfl, rfl⟩
            go_wp2_with fail
            go_region_held3 (fun _ => True) (trivial) ((go_at_call 134; refine (builder_str _ o _ _ hownd (by omega) hs3).mono ?_; rintro e w1 ⟨rfl, hown1, hb1⟩))
            all_goals
              rw [h3.out] at hown1
              go_wp2
              go_roundw
              case rel => exact ⟨k + 1, _, by omega, by go_num, hown1, by simp; omega, hbel.drew.trans hb1, HS⟩
              case measure => simp [intOf]; omega
        · have HS := HS _ (esc_own1 HC q1 q2 q3 q4 (by omega) (by omega))
          have hp1 : ¬ c' < 32 := fun h => hp (.inl h)
          have hp2 : ¬ 126 < c' := fun h => hp (.inr h)
          clear hp q1 q2 q3 q4
          go_wp2_with fail
          refine (IX _).mono ?_
          rintro e w1 ⟨rfl, rfl⟩
          go_wp2_with fail
          refine (builder_byte _ o _ v HC.out _ hown (by omega)).mono ?_
          rintro e w1 ⟨rfl, hown1, hb1⟩
          go_wp2
          go_roundw
          case rel => exact ⟨k + 1, _, by omega, by go_num, hown1, by simp; omega, hbel.trans hb1, HS⟩
          case measure => simp [intOf]; omega
    · obtain rfl : k = l.length := by omega
      go_wp2_with (go_at_call 135; refine (builder_string _ _ o _ hown.1 hown.2).mono ?_; rintro e w1 ⟨rfl, hb1⟩)
      go_ret
      exact ⟨ret_str (by rw [← HR.out]; simp [encF]), hbel.trans hb1⟩
end Go.Proofs.YthmpcdjhighhgaaGreatDoor
