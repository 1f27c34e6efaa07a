/- The law ChecksumHolds: the call returns true, for every tape, text and numbers. -/
import Derived.Test.YtpfldcfnbgdceaaLawA
import Derived.Deep.RegionHeld3
namespace Go.Proofs.Ytpfldcfnbgdceaa
set_option linter.unusedVariables false
open Go.RowKit
/-- The texts that the law asks of, in a row of the call's own. -/
def OSt (B : Nat) (v : Value) (ss : List ByteArray) (w : World) : Prop := w.ownsRow B 9 1 v ss.length (ss.map Value.string)
theorem ldigits_any (b n : Nat) (w : World) (hn : n ≤ 1000000) (ht : TapeOK b w) (t : Bool) :
    Calls Try.prog 8 #[.pointer (some ⟨b, 0, none⟩), .int .i64 (n : Int), .bool t] w (DigPost sgn b n w) := by
  cases t
  · refine (ldigits_no b n w hn ht).mono ?_
    rintro e w' ⟨l, h1, h2, h3, h4, h5⟩
    exact ⟨l, h1, h2, dig_sgn' l h3, h4, h5⟩
  · exact ldigits_yes b n w hn ht
theorem complete_refX (c : Int) (S : ByteArray) (hS : S.size ≤ 100) : ∃ (X : ByteArray) (E : Int), X.size ≤ 200 ∧
    ∀ w, Calls Try.prog 12 #[.int .i64 c, .string S] w fun e w' => e = .returned (.tuple #[.string X, .int .i64 E]) ∧ Below w.heap.size w w' :=
  ⟨_, _, by rw [size_bs]; have := cmpQ_len c (bl S); rw [size_list] at this; omega, fun w => complete_ref c S w (by omega)⟩
theorem OSt.three {B : Nat} (w : World) (s0 s1 s2 : ByteArray) (hB : B ≤ w.heap.size) : OSt B (.slice (some ⟨w.heap.size, 0, none⟩) 3 3) [s0, s1, s2] (w.alloc (.cells #[.string s0, .string s1, .string s2] 9)) :=
  ⟨rfl, .inr ⟨w.heap.size, 3, #[.string s0, .string s1, .string s2], rfl, hB, heap_alloc_new w _, Nat.le_refl 3, by unfold maxLen; decide, rfl, rfl⟩⟩
theorem OSt.keep {B : Nat} {v : Value} {ss : List ByteArray} {w w' : World} (h : OSt B v ss w) (hb : Below w.heap.size w w') : OSt B v ss w' :=
  World.ownsRow.kept h (row := none) ⟨hb.os, hb.tape, hb.output, hb.size, fun k hk _ => hb.block k hk⟩ (by cases hv : v.ownBlock <;> simp)
theorem OSt.fr {B b : Nat} {v : Value} {ss : List ByteArray} {w w' : World} (h : OSt B v ss w) (hf : Fr b w w') (hB : b < B) : OSt B v ss w' :=
  World.ownsRow.kept h hf (by
    cases hv : v.ownBlock with
    | none => exact .inl rfl
    | some k => exact .inr (by intro e; injection e with e; have := World.ownsRow.lt h k hv; omega))
theorem luhn_two2 (t : ByteArray) (ht : t.size ≤ 2000) : ∃ b : Bool, (∀ w, Calls Try.prog 15 #[.string t] w fun e w' => e = .returned (.bool b) ∧ Below w.heap.size w w') ∧
    ∀ w, Calls Try.prog 16 #[.string t] w fun e w' => e = .returned (.bool b) ∧ Below w.heap.size w w' := by
  refine ⟨_, fun w => luhnP_any t w (by omega), fun w => ?_⟩
  rw [luhnPQ]; exact (luhn_ref t w (by omega)).mono fun _ _ ⟨h1, h2⟩ => ⟨h1, h2 ▸ Below.refl _ _⟩
theorem mod97_two2 (t : ByteArray) (ht : t.size ≤ 2000) : ∃ b : Bool, (∀ w, Calls Try.prog 14 #[.string t] w fun e w' => e = .returned (.bool b) ∧ Below w.heap.size w w') ∧
    ∀ w, Calls Try.prog 17 #[.string t] w fun e w' => e = .returned (.bool b) ∧ Below w.heap.size w w' := by
  refine ⟨_, fun w => mod97P_any t w (by omega), fun w => ?_⟩
  rw [m97PQ]; exact (mod97Q_ref t w (by omega)).mono fun _ _ ⟨h1, h2⟩ => ⟨h1, h2 ▸ Below.refl _ _⟩
theorem crc_two2 (t : ByteArray) (ht : t.size ≤ 2000) : ∃ b : Int, (∀ w, Calls Try.prog 18 #[.string t] w fun e w' => e = .returned (.int .u32 b) ∧ Below w.heap.size w w') ∧
    ∀ w, Calls Try.prog 19 #[.string t] w fun e w' => e = .returned (.int .u32 b) ∧ Below w.heap.size w w' := by
  refine ⟨_, fun w => crc_any t w (by omega), fun w => ?_⟩
  exact (crc_ref t w (by omega)).mono fun _ _ ⟨h1, h2⟩ => ⟨h1, h2 ▸ Below.refl _ _⟩
theorem letter_two2 (t : ByteArray) (ht : t.size ≤ 2000) : ∃ b : Int, (∀ w, Calls Try.prog 20 #[.string t] w fun e w' => e = .returned (.int .u8 b) ∧ Below w.heap.size w w') ∧
    ∀ w, Calls Try.prog 21 #[.string t] w fun e w' => e = .returned (.int .u8 b) ∧ Below w.heap.size w w' := by
  refine ⟨_, fun w => letter_any t w (by omega), fun w => ?_⟩
  exact (letter_ref t w (by omega)).mono fun _ _ ⟨h1, h2⟩ => ⟨h1, h2 ▸ Below.refl _ _⟩
theorem holds_two2 (t : ByteArray) (ht : t.size ≤ 2000) (c : Int) : ∃ b : Bool, (∀ w, Calls Try.prog 22 #[.int .i64 c, .string t] w fun e w' => e = .returned (.bool b) ∧ Below w.heap.size w w') ∧
    ∀ w, Calls Try.prog 23 #[.int .i64 c, .string t] w fun e w' => e = .returned (.bool b) ∧ Below w.heap.size w w' := by
  refine ⟨_, fun w => holds_any c t w (by omega), fun w => ?_⟩
  rw [hldPQ]; exact (holds_ref c t w (by omega)).mono fun _ _ ⟨h1, h2⟩ => ⟨h1, h2⟩
theorem OSt.form {B : Nat} {v : Value} {ss : List ByteArray} {w : World} (h : OSt B v ss w) (hn : v ≠ .slice none 0 0) : ∃ g cap, v = .slice (some ⟨g, 0, none⟩) ss.length cap ∧ g < w.heap.size ∧ ∀ k (hk : k < ss.length), w.cell? ⟨g, k, none⟩ = some (.string ss[k]) := by
  rcases h.2 with ⟨h1, -⟩ | ⟨g, cap, cur, rfl, hB, hg, r⟩
  · exact absurd h1 hn
  · refine ⟨g, cap, rfl, (Array.getElem?_eq_some_iff.1 hg).1, fun k hk => ?_⟩
    have := World.ownsRow.cellAt h k (by simpa using hk)
    rw [this]; simp [hk]
set_option maxRecDepth 100000 in
set_option maxHeartbeats 4000000 in
theorem holds_law (A : Option Addr) (n c : Nat) (s : ByteArray) (check at_ : Int) (w : World) (ht : TapeArg A n w) :
    Calls Try.prog 5 #[.slice A n c, .string s, .int .i64 check, .int .i64 at_] w fun e w' => e = .returned (.bool true) ∧ Below w.heap.size w w' := by
  obtain ⟨i0, hi, hz0, hz1, hz2⟩ := info_parts info_str
  have h0 := tape_new (c := c) ht
  have hb0 := (Below.refl w.heap.size w).alloc (Nat.le_refl _) (.cells #[.slice A n c, .int .i64 0] 25)
  generalize hw0 : w.alloc (.cells #[.slice A n c, .int .i64 0] 25) = w0 at h0 hb0
  have HW0 := Lib.hid hw0
  obtain ⟨p, hp⟩ : ∃ p, bits .and .i64 at_ 255 = p := ⟨_, rfl⟩
  obtain ⟨hp0, hp1⟩ := mask_bd at_ 255 (by decide) (by decide)
  rw [hp] at hp0 hp1
  go_enter Try.func5, Try.ntmps5
  go_wp2_with fail
  clear hw0
  refine (next_any w.heap.size _ _ (by omega) (by omega) h0).mono ?_
  rintro e w1 ⟨r, rfl, hr0, hr1, ht1, hf1⟩
  obtain ⟨r, rfl⟩ := Int.eq_ofNat_of_zero_le hr0
  go_wp2_with fail
  refine (next_any w.heap.size _ _ (by omega) (by omega) ht1).mono ?_
  rintro e w2 ⟨r2, rfl, hr20, hr21, ht2, hf2⟩
  obtain ⟨b2, hb2⟩ : ∃ b2, (r2 == 1) = b2 := ⟨_, rfl⟩
  go_wp2_with fail
  refine (ldigits_any w.heap.size r _ (by omega) ht2 b2).mono ?_
  rintro e w3 ⟨l, rfl, hl, hd, ht3, hf3⟩
  have hF : Fr w.heap.size w0 w3 := (hf1.trans hf2).trans hf3
  have hls : (bs l).size ≤ 20 := by rw [size_bs]; omega
  clear hr0 hr1 hr20 hr21 hb2 ht1 ht2 hf1 hf2 hf3 hl hd h0
  obtain ⟨S, hS⟩ : ∃ S, bs l = S := ⟨_, rfl⟩
  rw [hS] at hls ⊢
  clear hS
  go_wp2_with fail
  have hB1 : w.heap.size + 1 = w0.heap.size := by rw [← HW0.out]; simp
  have hO : OSt (w.heap.size + 1) (.slice (some ⟨w3.heap.size, 0, none⟩) 3 3) [s, S, S ++ ⟨#[48, 55]⟩] (w3.alloc (.cells #[.string s, .string S, .string (S ++ ⟨#[48, 55]⟩)] 9)) := OSt.three w3 _ _ _ (by rw [hB1]; exact hF.size)
  have ht4 := ht3.below ((Below.refl _ w3).alloc (Nat.le_refl _) (.cells #[.string s, .string S, .string (S ++ ⟨#[48, 55]⟩)] 9))
  have hF4 : Below w.heap.size w (w3.alloc (.cells #[.string s, .string S, .string (S ++ ⟨#[48, 55]⟩)] 9)) := (hb0.trans (hF.below (Nat.le_refl _) hb0.size)).alloc (by have := hF.size; omega) _
  have HB1 := Lib.hid hB1
  generalize w3.alloc (.cells #[.string s, .string S, .string (S ++ ⟨#[48, 55]⟩)] 9) = W4 at *
  clear hB1 hF ht3 hb0
  go_loopw [11, 12] (fun v i wr => ∃ (j : Nat) (ss : List ByteArray), j ≤ 5 ∧ i = .int .i64 (j : Int) ∧ ss.length ≤ 3 + 2 * j ∧ OSt (w.heap.size + 1) v ss wr ∧ TapeOK w.heap.size wr ∧ Below w.heap.size w wr ∧ w.heap.size + 1 ≤ wr.heap.size ∧ v ≠ .slice none 0 0) (fun _ i _ => (5 - intOf i).toNat)
  case atStart => exact ⟨0, _, by omega, rfl, by simp, hO, ht4, hF4, ht4.lt, by simp⟩
  case round =>
    obtain ⟨j, ss, hj, rfl, hss, hown, htr, hbr, hsz, hvn⟩ := hrel
    by_cases hlj : j < 5
    · obtain ⟨X, E, hXs, hP⟩ := complete_refX (j : Int) S (by omega)
      have HP := Lib.hid hP; clear hP
      by_cases hE : E = 0
      · subst hE
        by_cases hX0 : 0 < X.size
        · go_wp2_with fail
          refine (HP.out _).mono ?_
          rintro e w5 ⟨rfl, hb5⟩
          have hown5 := hown.keep hb5
          have ht5 := htr.below hb5
          have hbr5 := hbr.trans (hb5.mono (by omega))
          have hs5 : w.heap.size + 1 ≤ w5.heap.size := Nat.le_trans hsz hb5.size
          have hcv := fun w => Lib.run_convert_string_bytes (P := Try.prog) w 9 28 5 X Try.underlying9 Try.underlying28 Try.underlying5
          obtain ⟨W, C, B, hW, hC, hB, hrb, hbel, hWs⟩ := RB.names w5 5 X
          have HRB := Lib.hid hrb; clear hrb
          go_wp2_with fail
          rw [← hW, ← hC, ← hB]
          clear hcv
          have hown6 : OSt (w.heap.size + 1) u11 ss W := hown5.keep (hB ▸ hbel)
          have ht6 := ht5.below (hB ▸ hbel)
          have HWW := Lib.hid hW; have HCC := Lib.hid hC; have HBB := Lib.hid hB; have HWs := Lib.hid hWs
          clear hW hC hB hWs
          obtain ⟨k, hk⟩ : ∃ k : Nat, p.tmod (X.size : Int) = (k : Int) := by
            rw [Int.tmod_eq_emod_of_nonneg hp0]
            exact Int.eq_ofNat_of_zero_le (Int.emod_nonneg _ (by omega))
          have hkX : k < X.size := by
            have h := Int.emod_lt_of_pos p (show (0 : Int) < X.size by omega)
            rw [Int.tmod_eq_emod_of_nonneg hp0] at hk
            omega
          have hkl : k < (bl X).length := by rw [size_list]; exact hkX
          have hXne : (X.size : Int) ≠ 0 := by omega
          have hki : (k : Int) < (X.size : Int) := by omega
          have hk0 : (0 : Int) ≤ (k : Int) := by omega
          have hXe : ¬ X = ByteArray.empty := by rintro rfl; exact absurd hX0 (by decide)
          have ht6d := ht6.below (w1 := W.drew) (Below.refl _ W).drew
          go_region_held3 (fun _ => True) (trivial) ((go_at_call 9; refine (next_any w.heap.size _ _ (by omega) (by omega) ht6d).mono ?_; rintro e w7 ⟨q, rfl, hq0, hq1, ht7, hf7⟩; obtain ⟨u, cc, -, hcu, hc0, hc1, hix⟩ := idx_str Try.underlying9 ⟨#[48, 49, 50, 51, 52, 53, 54, 55, 56, 57, 65, 66, 67, 90, 97, 102]⟩ q.toNat (show q.toNat < 16 by omega) .i64 q (by omega); have hrb7 := Lib.hid (HRB.out.keep (hf7.block B HRB.out.lt (by intro e; injection e with e; have := HBB.out; omega))); have hfz := hrb7.out.free k hkl; obtain ⟨x0, hcl⟩ : ∃ x, w7.cell? ⟨B, k, none⟩ = some x := ⟨_, hrb7.out.cell k hkl⟩))
          have hst := hrb7.out.set k u cc hcu.out
          have hsv := fun C => hst.conv (c := C) (n := X.size) Try.underlying28 Try.underlying5 Try.underlying9 (by rw [List.length_set, size_list])
          have hown7 := OSt.fr (w := W.drew) hown6 hf7 (Nat.lt_succ_self _)
          have hB5 : B = w5.heap.size := HBB.out
          have hbt : w.heap.size < B := by omega
          have hWs7 : B < w7.heap.size := hrb7.out.lt
          have hb8 : ∀ i, i ≠ B → (w7.setCell ⟨B, k, none⟩ (.int .u8 cc)).heap[i]? = w7.heap[i]? := fun i hi => Below.heap_setCell _ _ _ _ hi
          have hg8 : w7.grownBy (w7.setCell ⟨B, k, none⟩ (.int .u8 cc)) (some B) := ⟨rfl, rfl, rfl, by simp [World.setCell], fun i _ hne => hb8 i (fun e => hne (by rw [e]))⟩
          have hown8 : OSt (w.heap.size + 1) u11 ss (w7.setCell ⟨B, k, none⟩ (.int .u8 cc)) := World.ownsRow.kept hown7 hg8 (by
            cases hv : u11.ownBlock with
            | none => exact .inl rfl
            | some i => exact .inr (by intro e; injection e with e; have := World.ownsRow.lt hown5 i hv; omega))
          have ht8 : TapeOK w.heap.size (w7.setCell ⟨B, k, none⟩ (.int .u8 cc)) := ht7.keep fun i hi => hb8 i (by omega)
          have hbr7 : Below w.heap.size w w7 := ((hbr5.trans (hbel.mono (by omega))).trans (Below.refl _ W).drew).trans (Fr.below hf7 (Nat.le_refl _) (by show w.heap.size ≤ W.heap.size; have := HWs.out; omega))
          have hbr8 : Below w.heap.size w (w7.setCell ⟨B, k, none⟩ (.int .u8 cc)) := hbr7.setCell (p := ⟨B, k, none⟩) (by show w.heap.size ≤ B; omega) _
          have hs8 : w.heap.size + 1 ≤ (w7.setCell ⟨B, k, none⟩ (.int .u8 cc)).heap.size := by have := hg8.size; omega
          generalize w7.setCell ⟨B, k, none⟩ (.int .u8 cc) = W8 at *
          generalize bs ((bl X).set k u) = X2 at *
          clear hg8 hb8 hst hfz hcl hown7 hown6 hown5 hown hB5 hbr7 ht7 ht6d ht6 ht5 htr hf7 hix hcu
          go_wp2_with (at_builtin; refine app_new Try.underlying30 hi hz0 hz1 hz2 rfl _ _ _ _ _ _ _ [.string X, .string X2] _ rfl rfl rfl rfl rfl hown8 (by simp [Value.oneCell']) (by omega) (by omega) (by omega) ?_; intro v9 w9 hown9 hb9 hn9)
          go_roundw
          case rel => exact ⟨j + 1, ss ++ [X, X2], by omega, by go_num, by simp; omega, by simpa [OSt] using hown9, ht8.below' hb9 (Nat.lt_succ_self _), hbr8.trans (hb9.mono (by omega)), Nat.le_trans hs8 hb9.size, fun h => hvn (hn9.1 h).1⟩
          case measure => simp [intOf]; omega
        · go_wp2_with fail
          refine (HP.out _).mono ?_
          rintro e w5 ⟨rfl, hb5⟩
          go_wp2
          go_roundw
          case rel => exact ⟨j + 1, ss, by omega, by go_num, by omega, hown.keep hb5, htr.below hb5, hbr.trans (hb5.mono (by omega)), Nat.le_trans hsz hb5.size, hvn⟩
          case measure => simp [intOf]; omega
      · go_wp2_with fail
        refine (HP.out _).mono ?_
        rintro e w5 ⟨rfl, hb5⟩
        go_wp2
        go_roundw
        case rel => exact ⟨j + 1, ss, by omega, by go_num, by omega, hown.keep hb5, htr.below hb5, hbr.trans (hb5.mono (by omega)), Nat.le_trans hsz hb5.size, hvn⟩
        case measure => simp [intOf]; omega
    · obtain rfl : j = 5 := by omega
      obtain ⟨g, cap, rfl, hg, hcell⟩ := hown.form hvn
      have hle : ss.length ≤ 13 := by omega
      have HCL := Lib.hid hcell; clear hcell hown hvn htr hss
      obtain ⟨W2, rfl⟩ : ∃ W2 : World, W2 = wr := ⟨_, rfl⟩
      go_wp2_with fail
      go_loopw [16] (fun i wi => ∃ k : Nat, k ≤ ss.length ∧ i = .int .i64 (k : Int) ∧ Below W2.heap.size W2 wi) (fun i _ => (13 - intOf i).toNat)
      case atStart => exact ⟨0, by omega, rfl, Below.refl _ _⟩
      case round =>
        obtain ⟨k, hk, rfl, hbi⟩ := hrel
        by_cases hlk : k < ss.length
        · have hct := HCL.out k hlk
          generalize ss[k] = t at hct
          have hc1 : ∀ d : BelT W2.heap.size W2, d.val.cell? ⟨g, k, none⟩ = some (.string t) := fun d => (d.property.cell (p := ⟨g, k, none⟩) hg).trans hct
          have hc2 := hc1 ⟨_, hbi⟩
          have hd2 : decide ((k : Int) < (ss.length : Int)) = true := decide_eq_true (by omega)
          have hHC := Lib.hid hc1
          clear hct hc1
          by_cases hbig : 2000 < t.size
          · go_wp2
            go_roundw
            case rel => exact ⟨k + 1, by omega, by go_num, hbi⟩
            case measure => simp [intOf]; omega
          · have hd : decide ((2000 : Int) < (t.size : Int)) = false := decide_eq_false (by omega)
            obtain ⟨x1, p1, q1⟩ := luhn_two2 t (by omega)
            obtain ⟨x2, p2, q2⟩ := mod97_two2 t (by omega)
            obtain ⟨x3, p3, q3⟩ := crc_two2 t (by omega)
            obtain ⟨x4, p4, q4⟩ := letter_two2 t (by omega)
            obtain ⟨x5, p5, q5⟩ := holds_two2 t (by omega) check
            have P1 := Lib.hid p1; have P2 := Lib.hid p2; have P3 := Lib.hid p3; have P4 := Lib.hid p4; have P5 := Lib.hid p5
            have Q1 := Lib.hid q1; have Q2 := Lib.hid q2; have Q3 := Lib.hid q3; have Q4 := Lib.hid q4; have Q5 := Lib.hid q5
            clear p1 p2 p3 p4 p5 q1 q2 q3 q4 q5
            go_wp2_with fail
            have hc1 := hHC.out
            have hk0 : (0 : Int) ≤ (k : Int) := by omega
            have hki : (k : Int) < (ss.length : Int) := by omega
            refine wp_region_below hbi (by kernel_rfl) (by kernel_rfl) ?_
            repeat (go_big_quiet_step (first
              | (go_at_call 15; exact Calls.below_of (Nat.le_refl _) (P1.out _)) | (go_at_call 16; exact Calls.below_of (Nat.le_refl _) (Q1.out _))
              | (go_at_call 14; exact Calls.below_of (Nat.le_refl _) (P2.out _)) | (go_at_call 17; exact Calls.below_of (Nat.le_refl _) (Q2.out _))
              | (go_at_call 18; exact Calls.below_of (Nat.le_refl _) (P3.out _)) | (go_at_call 19; exact Calls.below_of (Nat.le_refl _) (Q3.out _))
              | (go_at_call 20; exact Calls.below_of (Nat.le_refl _) (P4.out _)) | (go_at_call 21; exact Calls.below_of (Nat.le_refl _) (Q4.out _))
              | (go_at_call 22; exact Calls.below_of (Nat.le_refl _) (P5.out _)) | (go_at_call 23; exact Calls.below_of (Nat.le_refl _) (Q5.out _))))
            refine wpQuiet_nil ?_
            intro _ hw'
            obtain ⟨⟨wj, hbj⟩, rfl⟩ := hw'
            clear hc1 hc2
            go_wp2_with fail
            go_loopw [17] (fun i wi => ∃ m : Nat, m ≤ 7 ∧ i = .int .i64 ((m : Int) - 1) ∧ Below W2.heap.size W2 wi) (fun i _ => (6 - intOf i).toNat)
            case atStart => exact ⟨0, by omega, rfl, hbj⟩
            case round =>
              obtain ⟨m, hm, rfl, hbm⟩ := hrel
              by_cases hlm : m < 7
              · obtain ⟨x6, p6, q6⟩ := holds_two2 t (by omega) ((m : Int) - 1)
                have P6 := Lib.hid p6; have Q6 := Lib.hid q6
                clear p6 q6
                have hd5 : decide ((m : Int) - 1 ≤ 5) = true := decide_eq_true (by omega)
                go_wp2_with fail
                have hc1 := hHC.out
                have hk0 : (0 : Int) ≤ (k : Int) := by omega
                have hki : (k : Int) < (ss.length : Int) := by omega
                refine wp_region_below hbm (by kernel_rfl) (by kernel_rfl) ?_
                repeat (go_big_quiet_step (first
                  | (go_at_call 22; exact Calls.below_of (Nat.le_refl _) (P6.out _)) | (go_at_call 23; exact Calls.below_of (Nat.le_refl _) (Q6.out _))
                  | (go_at_call 24; exact Calls.below_same (valid_any _ _)) | (go_at_call 25; exact Calls.below_same (valid_ref _ _))))
                refine wpQuiet_nil ?_
                intro _ hw'
                obtain ⟨⟨wq, hbq⟩, rfl⟩ := hw'
                clear hc1
                go_wp2
                go_roundw
                case rel => exact ⟨m + 1, by omega, by go_num, hbq⟩
                case measure => simp [intOf]; omega
              · obtain rfl : m = 7 := by omega
                go_wp2
                go_roundw
                case rel => (repeat apply Exists.intro); exact ⟨⟨k + 1, by omega, by go_num, hbm⟩, rfl⟩
                case measure => simp [intOf]; omega
        · obtain rfl : k = ss.length := by omega
          go_wp2_with (go_at_call 13; refine (awake_any _).mono ?_; rintro e w' ⟨rfl, hb⟩)
          go_ret
          exact ⟨rfl, (hbr.trans (hbi.mono hbr.size)).trans (hb.mono (Nat.le_trans hbr.size hbi.size))⟩
end Go.Proofs.Ytpfldcfnbgdceaa
