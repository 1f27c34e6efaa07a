/- The law ChecksumTells: the call returns true, for every tape and numbers. -/
import Derived.Test.YtpfldcfnbgdceaaTapeArg
import Derived.Test.YtpfldcfnbgdceaaAwake
import Derived.Test.YtpfldcfnbgdceaaLawDig
import Derived.Test.YtpfldcfnbgdceaaPlain2
namespace Go.Proofs.Ytpfldcfnbgdceaa
set_option linter.unusedVariables false
open Go.RowKit
set_option maxRecDepth 100000 in
set_option maxHeartbeats 4000000 in
theorem tells_law (A : Option Addr) (n c : Nat) (N at_ by_ : Int) (w : World) (ht : TapeArg A n w) :
    Calls Try.prog 7 #[.slice A n c, .int .i64 N, .int .i64 at_, .int .i64 by_] w fun e w' => e = .returned (.bool true) ∧ Below w.heap.size w w' := by
  have h0 := tape_new (c := c) ht
  have hb0 := (Below.refl w.heap.size w).alloc (Nat.le_refl _) (.cells #[.slice A n c, .int .i64 0] 25)
  generalize hw0 : w.alloc (.cells #[.slice A n c, .int .i64 0] 25) = w0 at h0 hb0
  have HW0 := Lib.hid hw0
  obtain ⟨y, hy⟩ : ∃ y, bits .and .i64 N 15 = y := ⟨_, rfl⟩
  obtain ⟨hy0, hy1⟩ := mask_bd N 15 (by decide) (by decide)
  rw [hy] at hy0 hy1
  obtain ⟨p, hp⟩ : ∃ p, bits .and .i64 at_ 255 = p := ⟨_, rfl⟩
  obtain ⟨hp0, hp1⟩ := mask_bd at_ 255 (by decide) (by decide)
  rw [hp] at hp0 hp1
  obtain ⟨z, hz⟩ : ∃ z, bits .and .i64 by_ 255 = z := ⟨_, rfl⟩
  obtain ⟨hz0, hz1⟩ := mask_bd by_ 255 (by decide) (by decide)
  rw [hz] at hz0 hz1
  obtain ⟨z15, hz15⟩ : ∃ z15, bits .and .i64 by_ 15 = z15 := ⟨_, rfl⟩
  obtain ⟨hz150, hz151⟩ := mask_bd by_ 15 (by decide) (by decide)
  rw [hz15] at hz150 hz151
  go_enter Try.func7, Try.ntmps7
  go_wp2_with fail
  clear hw0
  refine (ldigits_no' w.heap.size (2 + y).toNat _ (by omega) _ (by omega) h0).mono ?_
  rintro e w1 ⟨l, rfl, hl, hd, ht1, hf1⟩
  have hF : Below w.heap.size w w1 := hb0.trans (hf1.below (Nat.le_refl _) hb0.size)
  clear hy ht1 hf1 h0 hb0 HW0
  have hne : l ≠ [] := by rintro rfl; simp at hl; omega
  have hS0 : (bs l).size = l.length := size_bs l
  have hSlo : 2 ≤ (bs l).size := by omega
  have hShi : (bs l).size ≤ 17 := by omega
  have HL := Lib.hid hl; have HD := Lib.hid hd; have HNE := Lib.hid hne; have HS := Lib.hid hS0
  clear hl hd hne hS0
  obtain ⟨S, hS⟩ : ∃ S, bs l = S := ⟨_, rfl⟩
  rw [hS] at hSlo hShi HS ⊢
  have HSE := Lib.hid hS; clear hS
  obtain ⟨k, hk⟩ : ∃ k : Nat, p % (S.size : Int) = (k : Int) := Int.eq_ofNat_of_zero_le (Int.emod_nonneg _ (by omega))
  have hkS : k < S.size := by have := Int.emod_lt_of_pos p (show (0 : Int) < S.size by omega); omega
  have hkl : l[k]? = some (l[k]'(by rw [← HS.out]; exact hkS)) := List.getElem?_eq_getElem _
  generalize l[k]'(by rw [← HS.out]; exact hkS) = u at hkl
  have hu : dig u.toNat = true := by
    obtain ⟨a, b, hab, -⟩ := split_at hkl
    have := HD.out; rw [hab] at this; exact allF_mid this
  have hub := dig_yes hu
  obtain ⟨cu, hcu⟩ : ∃ cu : Int, cu = u.toNat := ⟨_, rfl⟩
  rw [← hcu] at hub
  have HCU := Lib.hid hcu; have HKL := Lib.hid hkl; have HU := Lib.hid hu
  clear hcu hkl hu
  obtain ⟨v, hv, hvd, hvn⟩ : ∃ v : UInt8, 48 + (cu - 48 + 1 + z % 9) % 10 = (v.toNat : Int) ∧ dig v.toNat = true ∧ u ≠ v := by
    refine ⟨UInt8.ofNat (48 + (cu - 48 + 1 + z % 9) % 10).toNat, by rw [toNat_of (by omega)]; omega, ?_, ?_⟩
    · rw [toNat_of (by omega)]; exact dig_mk (by omega) (by omega)
    · intro h
      have := congrArg UInt8.toNat h
      rw [toNat_of (by omega)] at this
      have := HCU.out
      omega
  have HV := Lib.hid hv; have HVD := Lib.hid hvd; have HVN := Lib.hid hvn
  clear hv hvd hvn
  go_wp2_with fail
  rw [hk]
  have HK := Lib.hid hk; clear hk
  go_loopw [12] (fun i wr => ∃ j : Nat, j ≤ 3 ∧ i = .int .i64 (1 + (j : Int)) ∧ Below w1.heap.size w1 wr) (fun i _ => (4 - intOf i).toNat)
  case atStart => exact ⟨0, by omega, rfl, Below.refl _ _⟩
  case round =>
    obtain ⟨j, hj, rfl, hbr⟩ := hrel
    by_cases hlj : j < 3
    · have hc := fun W => complete_any (1 + (j : Int)) S W (by omega)
      have hcd := cmp_digits (c := 1 + (j : Int)) (by omega) (by omega) HNE.out HD.out (by have := HL.out; omega)
      rw [← HSE.out, bl_bs, hcd, HSE.out] at hc
      clear hcd
      have ht := tells (c := 1 + (j : Int)) (by omega) (by omega) HD.out HKL.out HVD.out HVN.out
      have hp := addP_pos (c := 1 + (j : Int)) (l := l) (by omega) (by omega)
      have hp8 := addP_len (1 + (j : Int)) l
      have hxk : (l ++ addP (1 + (j : Int)) l)[k]? = some u := by
        rw [List.getElem?_append_left (by rw [← HS.out]; exact hkS)]; exact HKL.out
      have hsz : S.size < (bs (l ++ addP (1 + (j : Int)) l)).size := by rw [size_bs, List.length_append, HS.out]; omega
      have hsz2 : (bs (l ++ addP (1 + (j : Int)) l)).size ≤ 100 := by rw [size_bs, List.length_append, ← HS.out]; omega
      have HC := Lib.hid hc; have HT := Lib.hid ht; have HXK := Lib.hid hxk
      clear hc ht hp hp8 hxk
      generalize l ++ addP (1 + (j : Int)) l = xl at *
      obtain ⟨X, hX⟩ : ∃ X, bs xl = X := ⟨_, rfl⟩
      rw [hX] at hsz hsz2 HC
      have hXb : bl X = xl := by rw [← hX, bl_bs]
      have HX := Lib.hid hX; have HXB := Lib.hid hXb
      clear hX hXb
      have hix := idx_bl (P := Try.prog) Try.underlying9 X k u (by rw [HXB.out]; exact HXK.out) .i64 (k : Int) rfl cu HCU.out
      have hle : decide ((X.size : Int) ≤ S.size) = false := decide_eq_false (by omega)
      have hlim : (bs (xl.set k v)).size ≤ 1000000 := by rw [size_bs, List.length_set, ← size_bs, HX.out]; omega
      have hH := fun W => holds_any (1 + (j : Int)) (bs (xl.set k v)) W hlim
      rw [bl_bs, HT.out] at hH
      have HH := Lib.hid hH; clear hH hlim
      go_wp2_with fail
      refine (HC.out _).mono ?_
      rintro e w2 ⟨rfl, hb2⟩
      have hcv := fun w => Lib.run_convert_string_bytes (P := Try.prog) w 9 28 5 X Try.underlying9 Try.underlying28 Try.underlying5
      obtain ⟨W, C, B, hW, hC, hB, hrb, hbel, hWs⟩ := RB.names w2 5 X
      rw [HXB.out] at hrb
      have hkx : k < xl.length := (List.getElem?_eq_some_iff.1 HXK.out).1
      have hfz := hrb.free k hkx
      obtain ⟨x0, hcl⟩ : ∃ x, W.cell? ⟨B, k, none⟩ = some x := ⟨_, hrb.cell k hkx⟩
      rw [hW, hB] at hfz hcl
      have hst := hrb.set k v _ HV.out
      have hsv := fun C => hst.conv (c := C) (n := X.size) Try.underlying28 Try.underlying5 Try.underlying9 (by rw [List.length_set, ← size_bs, HX.out])
      rw [hW, hB] at hsv
      clear hrb hst hW hC hB hWs hkx
      go_wp2_with fail
      refine (HH.out _).mono ?_
      rintro e w3 ⟨rfl, hb3⟩
      have s1 := hbr.size
      have s2 := hb2.size
      have hbs : Below w1.heap.size w2 ((Lib.bytesWorld w2 5 X).setCell ⟨w2.heap.size, k, none⟩ (.int .u8 (48 + (cu - 48 + 1 + z % 9) % 10))) :=
        ((bw_below w2 5 X).mono (by omega)).setCell (p := ⟨w2.heap.size, k, none⟩) (by show w1.heap.size ≤ w2.heap.size; omega) _
      have s3 := hbs.size
      have hfin : Below w1.heap.size w1 w3 := ((hbr.trans (hb2.mono s1)).trans hbs).trans (hb3.mono (by omega))
      go_wp2
      go_roundw
      case rel => exact ⟨j + 1, by omega, by go_num, hfin⟩
      case measure => simp [intOf]; omega
    · obtain rfl : j = 3 := by omega
      have hc := fun W => complete_any 4 S W (by omega)
      have hcd := cmp_digits (c := 4) (by omega) (by omega) HNE.out HD.out (by have := HL.out; omega)
      rw [← HSE.out, bl_bs, hcd, HSE.out] at hc
      clear hcd
      obtain ⟨hm0, hm1⟩ := letF_bd l 0 0 (by omega) (by omega)
      have hadd : addP 4 l = [UInt8.ofNat (65 + letF l 0 0).toNat] := rfl
      have hLn : 65 + letF l 0 0 = ((UInt8.ofNat (65 + letF l 0 0).toNat).toNat : Int) := by rw [toNat_of (by omega)]; omega
      have ht : ∀ t : Int, 1 ≤ t → t ≤ 16 → hldP 4 (l ++ [UInt8.ofNat (65 + (letF l 0 0 + t) % 26).toNat]) = false := fun t h1 h2 =>
        let_tells HNE.out h1 h2 (by rw [toNat_of (by omega)]; omega)
      rw [hadd] at hc
      obtain ⟨M, hM⟩ : ∃ M, letF l 0 0 = M := ⟨_, rfl⟩
      rw [hM] at hm0 hm1 hadd hLn ht hc
      generalize hLu : UInt8.ofNat (65 + M).toNat = Lu at hLn hc hadd
      have hxk : (l ++ [Lu])[S.size]? = some Lu := by rw [HS.out]; simp
      have hsz : ((bs (l ++ [Lu])).size : Int) = S.size + 1 := by rw [size_bs, List.length_append, HS.out]; simp
      have hs2 : (bs (l ++ [Lu])).size ≤ 100 := by omega
      obtain ⟨X, hX⟩ : ∃ X, bs (l ++ [Lu]) = X := ⟨_, rfl⟩
      rw [hX] at hsz hc hs2
      have hXb : bl X = l ++ [Lu] := by rw [← hX, bl_bs]
      have hix := idx_bl (P := Try.prog) Try.underlying9 X S.size Lu (by rw [hXb]; exact hxk) .i64 (S.size : Int) rfl (65 + M) hLn
      have hne4 : ((X.size : Int) != (S.size : Int) + 1) = false := by rw [hsz]; simp
      obtain ⟨V, hV⟩ : ∃ V, UInt8.ofNat (65 + (M + (1 + z15)) % 26).toNat = V := ⟨_, rfl⟩
      have hT4 := ht (1 + z15) (by omega) (by omega)
      rw [hV] at hT4
      have hVn : 65 + (65 + M - 65 + 1 + z15) % 26 = (V.toNat : Int) := by rw [← hV, toNat_of (by omega)]; omega
      have hcv := fun w => conv_row (P := Try.prog) Try.underlying28 Try.underlying5 Try.underlying9 [V] [.int .u8 (65 + (65 + M - 65 + 1 + z15) % 26)] (by simp only [List.map]; rw [hVn]) 1 1 rfl w
      have hsV := size_bs1 V
      have hcat : S ++ bs [V] = bs (l ++ [V]) := by rw [cat_bs, ← HSE.out, bl_bs]
      have hlim : (bs (l ++ [V])).size ≤ 1000000 := by rw [size_bs, List.length_append, ← HS.out]; simp; omega
      have hH := fun W => holds_any 4 (bs (l ++ [V])) W hlim
      rw [bl_bs, hT4] at hH
      have HC := Lib.hid hc; have HH := Lib.hid hH; have HCAT := Lib.hid hcat
      clear hc hH hadd hLn ht hLu hxk hX hXb hT4 hVn hV hM hlim hsz
      go_wp2_with fail
      refine (HC.out _).mono ?_
      rintro e w2 ⟨rfl, hb2⟩
      go_wp2_with fail
      refine (HH.out _).mono ?_
      rintro e w3 ⟨rfl, hb3⟩
      go_wp2_with (go_at_call 13; refine (awake_any _).mono ?_; rintro e w4 ⟨rfl, hb4⟩)
      go_ret
      have s0 := hF.size
      have s1 := hbr.size
      have s2 := hb2.size
      have hba := (Below.refl w.heap.size w2).alloc (by omega) (.cells #[.int .u8 (65 + (65 + M - 65 + 1 + z15) % 26)] 5)
      have s3 := hba.size
      have s4 := hb3.size
      exact ⟨rfl, ((((hF.trans (hbr.mono s0)).trans (hb2.mono (by omega))).trans hba).trans (hb3.mono (by omega))).trans (hb4.mono (by omega))⟩
end Go.Proofs.Ytpfldcfnbgdceaa
